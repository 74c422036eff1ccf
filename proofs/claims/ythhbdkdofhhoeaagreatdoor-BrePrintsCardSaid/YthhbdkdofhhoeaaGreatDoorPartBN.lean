/- Part of a proof over this seat: a library of my own, and what it says of this seat. No statement is proved here. -/
import Derived.Test.YthhbdkdofhhoeaaGreatDoorPartBM
namespace Go.Dec
abbrev Nd : Type := Int × List Int × Int × Int × Int × Int × Int × Unit
abbrev RdT : Type := List UInt8 × Int × Int × List Bool × List Nd × Unit
inductive Pt where
 | empty | bol | eol
 | bytes (p : Nat -> Bool)
 | cat (a b : Pt) | alt (a b : Pt)
 | times (a : Pt) (lo hi : Int)
 | group (a : Pt) (n : Nat)
 | ref (n : Nat)
def Pt.sz : Pt -> Nat
 | .cat a b => a.sz + b.sz + 1
 | .alt a b => a.sz + b.sz + 1
 | .times a _ _ => a.sz + 1
 | .group a _ => a.sz + 1
 | _ => 1
theorem Pt.bT : ∀ t : Pt, 1 <= t.sz
 | .empty | .bol | .eol | .bytes _ | .ref _ => Nat.le_refl _
 | .cat _ _ | .alt _ _ | .times _ _ _ | .group _ _ => Nat.le_add_left _ _
def Pt.top (o : Nat) (t : Pt) : Int := ((o + t.sz : Nat) : Int) - 1
def Pt.enc (o : Nat) : Pt -> List Nd
 | .empty => [(0, [0, 0, 0, 0], 0, 0, 0, 0, 0, ())]
 | .bol => [(2, [0, 0, 0, 0], 0, 0, 0, 0, 0, ())]
 | .eol => [(3, [0, 0, 0, 0], 0, 0, 0, 0, 0, ())]
 | .bytes p => [(1, wd p, 0, 0, 0, 0, 0, ())]
 | .cat a b => a.enc o ++ b.enc (o + a.sz) ++ [(4, [0, 0, 0, 0], a.top o, b.top (o + a.sz), 0, 0, 0, ())]
 | .alt a b => a.enc o ++ b.enc (o + a.sz) ++ [(5, [0, 0, 0, 0], a.top o, b.top (o + a.sz), 0, 0, 0, ())]
 | .times a lo hi => a.enc o ++ [(6, [0, 0, 0, 0], a.top o, 0, lo, hi, 0, ())]
 | .group a n => a.enc o ++ [(7, [0, 0, 0, 0], a.top o, 0, 0, 0, (n : Int), ())]
 | .ref n => [(8, [0, 0, 0, 0], 0, 0, 0, 0, (n : Int), ())]
theorem Pt.aZ : ∀ (t : Pt) (o : Nat), (t.enc o).length = t.sz
 | .empty, _ | .bol, _ | .eol, _ | .bytes _, _ | .ref _, _ => rfl
 | .cat a b, o => by simp [Pt.enc, Pt.sz, Pt.aZ a, Pt.aZ b]; omega
 | .alt a b, o => by simp [Pt.enc, Pt.sz, Pt.aZ a, Pt.aZ b]; omega
 | .times a _ _, o => by simp [Pt.enc, Pt.sz, Pt.aZ a]
 | .group a _, o => by simp [Pt.enc, Pt.sz, Pt.aZ a]
inductive Res (α : Type) where
 | ok (a : α) (r : List UInt8) (b : Nat) (en : List Bool)
 | er (e k : Nat)
def eG (r : List UInt8) : Bool := r.isEmpty || [92, 41].isPrefixOf r
def iK : List UInt8 := [46, 91, 92, 42, 94, 36, 47]
def dO : Nat -> List UInt8 -> Nat
 | 0, _ => 0
 | _ + 1, [] => 0
 | m + 1, c :: r => bif isDigit c then dO m r + 1 else 0
def gW (r : List UInt8) : Option Nat × List UInt8 :=
 let k := dO 3 r
 (bif k == 0 then none else some (mW (r.take k)), r.drop k)
def vw (t : Pt) (lo hi : Int) (r : List UInt8) (b : Nat) (en : List Bool) : Res Pt :=
 bif [42].isPrefixOf r || [92, 123].isPrefixOf r then .er 43 r.length else .ok (.times t lo hi) r b en
def jV (t : Pt) (r : List UInt8) (b : Nat) (en : List Bool) : Res Pt :=
 bif [42].isPrefixOf r then vw t 0 (-1) (r.drop 1) b en
 else bif [92, 123].isPrefixOf r then
  match gW (r.drop 2) with
  | (none, _) => .er 43 r.length
  | (some lo, r1) =>
   bif [44].isPrefixOf r1 then
    match gW (r1.drop 1) with
    | (none, r2) => bif [92, 125].isPrefixOf r2 && decide (lo <= 255) then vw t lo (-1) (r2.drop 2) b en else .er 43 r.length
    | (some hi, r2) => bif [92, 125].isPrefixOf r2 && decide (lo <= 255) && decide (hi <= 255) && decide (lo <= hi) && decide (1 <= hi) then vw t lo hi (r2.drop 2) b en else .er 43 r.length
   else bif [92, 125].isPrefixOf r1 && decide (lo <= 255) && decide (1 <= lo) then vw t lo lo (r1.drop 2) b en else .er 43 r.length
 else .ok t r b en
def vB (c : UInt8) : Nat -> Bool := fun i => decide (i = c.toNat)
def jB (dx : List UInt8 -> Nat -> List Bool -> Res (Option Pt)) (first : Bool) (r : List UInt8) (b : Nat) (en : List Bool) : Res Pt :=
 match r with
 | [] => .er 40 0
 | c :: r1 =>
  bif c == 46 then .ok (.bytes fun _ => true) r1 b en
  else bif c == 91 then
   match tO r with
   | none => .er 42 r.length
   | some (p, k) => .ok (.bytes p) (r.drop k) b en
  else bif c == 92 then
   match r1 with
   | [] => .er 40 r.length
   | d :: r2 =>
    bif d == 40 then
     bif b == 9 then .er 41 r.length
     else match dx r2 (b + 1) en with
      | .er e k => .er e k
      | .ok none _ _ _ => .er 41 r.length
      | .ok (some t) r3 b3 en3 => bif [92, 41].isPrefixOf r3 then .ok (.group t (b + 1)) (r3.drop 2) b3 (en3.set (b + 1) true) else .er 41 r.length
    else bif decide (49 <= d.toNat) && decide (d.toNat <= 57) then
     bif en.getD (d.toNat - 48) false then .ok (.ref (d.toNat - 48)) r2 b en else .er 44 r.length
    else bif d == 110 then .ok (.bytes (vB 10)) r2 b en
    else bif iK.contains d then .ok (.bytes (vB d)) r2 b en
    else bif d == 123 && first then .er 43 r.length
    else .er 40 r.length
  else .ok (.bytes (vB c)) r1 b en
def fG (dx : List UInt8 -> Nat -> List Bool -> Res (Option Pt)) : Nat -> Bool -> List UInt8 -> Nat -> List Bool -> List Pt -> Res (List Pt)
 | 0, _, _, _, _, _ => .er 0 0
 | f + 1, first, r, b, en, acc =>
  bif eG r then .ok acc r b en
  else bif [36].isPrefixOf r && eG (r.drop 1) then .ok (acc ++ [.eol]) (r.drop 1) b en
  else match jB dx first r b en with
   | .er e k => .er e k
   | .ok t r1 b1 en1 => match jV t r1 b1 en1 with
    | .er e k => .er e k
    | .ok t2 r2 b2 en2 => fG dx f false r2 b2 en2 (acc ++ [t2])
def iU : List Pt -> Option Pt
 | [] => none
 | t :: ts => match iU ts with
  | none => some t
  | some u => some (.cat t u)
def dx : Nat -> List UInt8 -> Nat -> List Bool -> Res (Option Pt)
 | 0, _, _, _ => .er 0 0
 | f + 1, r, b, en =>
  let bol := [94].isPrefixOf r
  let r1 := bif bol then r.drop 1 else r
  match fG (dx f) (r1.length + 1) true r1 b en (bif bol then [.bol] else []) with
  | .er e k => .er e k
  | .ok ts r2 b2 en2 => .ok (iU ts) r2 b2 en2
def gN : List Bool := [false, false, false, false, false, false, false, false, false, false]
def nM (s : List UInt8) : Sum Pt (Nat × Nat) :=
 match s with
 | [] => .inl .empty
 | _ => match dx 11 s 0 gN with
  | .er e k => .inr (e, s.length - k)
  | .ok t r _ _ =>
   match r with
   | [] => match t with
    | none => .inr (41, s.length)
    | some t => bif decide (t.sz > 120) then .inr (2, 0) else .inl t
   | _ => .inr (41, s.length - r.length)
def psn (s r : List UInt8) : Int := ((s.length - r.length : Nat) : Int)
theorem vC {r s : List UInt8} (h : r <:+ s) : s.drop (s.length - r.length) = r := (List.suffix_iff_eq_drop.1 h).symm
theorem iP {r s : List UInt8} (h : r <:+ s) : r.length <= s.length := h.length_le
theorem kM {r s : List UInt8} (h : r <:+ s) (k : Nat) : r.drop k <:+ s := (List.drop_suffix k r).trans h
theorem Bv {r s : List UInt8} (h : r <:+ s) {k : Nat} (hk : k <= r.length) : psn s (r.drop k) = psn s r + k := by
 have := iP h
 unfold psn
 rw [List.length_drop]; omega
theorem dP {r s : List UInt8} (h : r <:+ s) (hs : s.length < 1000000) {k : Nat} (hk : k <= r.length) : IntKind.wrap .i64 (psn s r + (k : Int)) = psn s (r.drop k) := by
 have := iP h
 rw [Bv h hk, aK (by unfold psn; omega) (by unfold psn; omega)]
theorem Sr {r s : List UInt8} (h : r <:+ s) : (decide (0 <= psn s r) && decide (psn s r <= (s.length : Int))) = true := by
 unfold psn; simp
theorem sV (r s : List UInt8) : (psn s r).toNat = s.length - r.length := Int.toNat_natCast _
theorem vK {r s : List UInt8} (h : r <:+ s) {j : Nat} {c d : UInt8} (hj : r[j]? = some c) : aG d s (psn s r + (j : Int)) = c := by
 unfold psn
 rw [show ((s.length - r.length : Nat) : Int) + (j : Int) = ((s.length - r.length + j : Nat) : Int) by omega]
 exact pW (by rw [vC h]; exact hj)
theorem Ah {r s : List UInt8} (h : r <:+ s) : (psn s r == (s.length : Int)) = r.isEmpty := by
 have := iP h
 rw [Bool.eq_iff_iff, beq_iff_eq, List.isEmpty_iff_length_eq_zero]; unfold psn; omega
section
variable {n : Nat} {s r t : List UInt8} {b : Int} {en : List Bool} {l : List Nd}
theorem pY (h : r <:+ s) : aS n (t, s, psn s r, b, en, l, ()) = some (t.isPrefixOf r, s, psn s r, b, en, l, ()) := by
 unfold aS
 simp only
 rw [ah (Sr h), Bu, sV, vC h]; rfl
theorem nN (h : r <:+ s) (hs : s.length < 1000000) (ht : t.isPrefixOf r = true) : bP n (t, s, psn s r, b, en, l, ()) = some (true, s, psn s (r.drop t.length), b, en, l, ()) := by
 unfold bP
 simp only
 rw [pY h]
 simp only [aA, ht, Bool.not_true, aM]
 rw [dP h hs (dD ht)]
theorem nO (h : r <:+ s) (ht : t.isPrefixOf r = false) : bP n (t, s, psn s r, b, en, l, ()) = some (false, s, psn s r, b, en, l, ()) := by
 unfold bP
 simp only
 rw [pY h]
 simp only [aA, ht, Bool.not_false, aR]
theorem Bw {at' k a c mi ma nn : Int} {w : List Int} (hl : l.length < 1000000) : bI n (k, w, a, c, mi, ma, nn, s, at', b, en, l, ()) = some (((l.length : Nat) : Int), s, at', b, en, l ++ [(k, w, a, c, mi, ma, nn, ())], ()) := by
 unfold bI
 simp only
 rw [ah (by simp [room]; omega)]
 simp only [List.length_append, List.length_cons, List.length_nil]
 rw [aK (by omega) (by omega)]
 congr 2; omega
theorem XV (h : r <:+ s) : kJ n (s, psn s r, b, en, l, ()) = some (eG r, s, psn s r, b, en, l, ()) := by
 unfold kJ
 simp only
 rw [Ah h, pY h]
 unfold eG
 cases r.isEmpty <;> rfl
theorem Zt {p : Nat -> Bool} {at' : Int} (hl : l.length < 1000000) : bY n (wd p, s, at', b, en, l, ()) = some (((l.length : Nat) : Int), s, at', b, en, l ++ (Pt.bytes p).enc l.length, ()) := by
 unfold bY
 simp only
 rw [Bw hl]; rfl
theorem fA {x : Int × Int × RdT} : aD n x = some (.inr x) := rfl
theorem Oj : ∀ (m : Nat) (r : List UInt8), dO m r <= m ∧ dO m r <= r.length
 | 0, _ => by simp [dO]
 | m + 1, [] => by simp [dO]
 | m + 1, c :: r => by
  have := Oj m r
  unfold dO
  cases isDigit c <;> simp <;> omega
theorem KS : ∀ (m : Nat) (r : List UInt8), (r.take (dO m r)).all isDigit = true
 | 0, _ => by simp [dO]
 | m + 1, [] => by simp [dO]
 | m + 1, c :: r => by
  have := KS m r
  unfold dO
  cases h : isDigit c
  ·simp
  ·simp [h, this]
def EM : Option Nat -> Int
 | none => -1
 | some k => (k : Int)
theorem uQ (h : r <:+ s) (hs : s.length < 1000000) :
  (chk ((decide (0 <= psn s (r.drop (dO 3 r))) && decide (psn s (r.drop (dO 3 r)) <= (s.length : Int)) && (decide (0 <= psn s r) && decide (psn s r <= psn s (r.drop (dO 3 r)))))) (
   ob (strconv_Atoi n ((s.take (psn s (r.drop (dO 3 r))).toNat).drop (psn s r).toNat)) fun y24 =>
   br (!(!y24.2)) (
    some ((-1), s, psn s (r.drop (dO 3 r)), b, en, l, ())) (
    some (y24.1, s, psn s (r.drop (dO 3 r)), b, en, l, ())))) = some (EM (gW r).1, s, psn s (gW r).2, b, en, l, ()) := by
 have hk := Oj 3 r
 have hl := iP h
 rw [ah (by rw [Bv h hk.2]; unfold psn; simp; omega)]
 have e : (s.take (psn s (r.drop (dO 3 r))).toNat).drop (psn s r).toNat = r.take (dO 3 r) := by
  rw [sV, sV, List.drop_take, vC h, List.length_drop]
  congr 1; omega
 rw [e]
 have hall := KS 3 r
 simp only [gW]
 cases hd : dO 3 r with
 | zero => simp [strconv_Atoi, EM]; rfl
 | succ k =>
  cases r with
  | nil => rw [hd] at hk; simp at hk
  | cons c r =>
   rw [hd] at hall hk
   unfold strconv_Atoi
   rw [ah (by
    rw [Bool.and_eq_true]
    refine ⟨?_, hall⟩
    rw [Nat.ble_eq, List.length_take]; omega)]
   simp [EM]
theorem O9 (h : r <:+ s) (hs : s.length < 1000000) (hn : 10 <= n) : ji n (s, psn s r, b, en, l, ()) = some (EM (gW r).1, s, psn s (gW r).2, b, en, l, ()) := by
 unfold ji
 simp only
 have hl := iP h
 have key : ∀ (j m : Nat) (r' : List UInt8), r' = r.drop j -> j + dO (3 - j) r' = dO 3 r -> j <= 3 -> j <= r.length -> 4 - j <= m -> fix (jA n) m (psn s r', s, psn s r, b, en, l, ()) = some (EM (gW r).1, s, psn s (gW r).2, b, en, l, ()) := by
  intro j
  induction hm : 3 - j generalizing j with
  | zero =>
   intro m r' hr' hd hj hjl hmm
   have hj3 : j = 3 := by omega
   rw [aX (by omega), jA]
   simp only
   have e : dO 3 r = j := by rw [<- hd]; simp [dO]
   have er : r' = r.drop (dO 3 r) := by rw [e]; exact hr'
   have hlim : decide (psn s r' < IntKind.wrap .i64 (psn s r + 3)) = false := by
    rw [hr', show (3 : Int) = ((3 : Nat) : Int) from rfl, dP h hs (by omega), hj3]; simp
   rw [er] at hlim ⊢
   rw [hlim]
   by_cases hlt : psn s (r.drop (dO 3 r)) < (s.length : Int)
   ·rw [au (decide_eq_true hlt), aM]
    exact uQ h hs
   ·rw [aj (decide_eq_false hlt)]
    exact uQ h hs
  | succ q ih =>
   intro m r' hr' hd hj hjl hmm
   have KT : r' <:+ s := by rw [hr']; exact kM h j
   rw [aX (by omega), jA]
   simp only
   have hlim : decide (psn s r' < IntKind.wrap .i64 (psn s r + 3)) = true := by
    rw [hr', Bv h hjl, aK (by unfold psn; omega) (by unfold psn; omega)]; simp; omega
   cases hc : r' with
   | nil =>
    rw [hc] at hd
    have e : dO 3 r = j := by rw [<- hd]; rfl
    have er : r' = r.drop (dO 3 r) := by rw [e]; exact hr'
    rw [<- hc, aj (by unfold psn; rw [hc]; simp), er]
    exact uQ h hs
   | cons c r2 =>
    rw [<- hc]
    rw [hc] at hd
    have hlr : r'.length = r2.length + 1 := by rw [hc]; rfl
    have hle := iP KT
    have hg : aG 0 s (psn s r') = c := by
     have := vK (d := 0) KT (j := 0) (c := c) (by rw [hc]; rfl)
     simpa using this
    have hib : inB (psn s r') s.length = true := cK (by unfold psn; omega) (by unfold psn; omega)
    rw [au (by unfold psn; simp; omega), au hlim, ah hib, ah hib, hg]
    have hdd : dO (q + 1) (c :: r2) = bif isDigit c then dO q r2 + 1 else 0 := rfl
    rw [hdd] at hd
    cases hdg : isDigit c
    ·rw [hdg] at hd
     simp only [cond_false, Nat.add_zero] at hd
     have er : r' = r.drop (dO 3 r) := by rw [<- hd]; exact hr'
     unfold isDigit at hdg
     have hfin := uQ (n := n) (b := b) (en := en) (l := l) h hs
     rw [<- er] at hfin
     by_cases h48 : 48 <= c.toNat
     ·rw [au (by simp; omega)]
      have h57 : ¬ c.toNat <= 57 := by
       intro h57; simp [h48, h57] at hdg
      rw [aj (by simp; omega)]
      exact hfin
     ·rw [aj (by simp; omega)]
      exact hfin
    ·rw [hdg] at hd
     simp only [cond_true] at hd
     unfold isDigit at hdg
     simp only [Bool.and_eq_true, decide_eq_true_eq] at hdg
     rw [au (by simp; omega), au (by simp; omega)]
     have hr2 : r2 = r.drop (j + 1) := by rw [<- List.drop_drop, <- hr', hc]; rfl
     have hp : IntKind.wrap .i64 (psn s r' + 1) = psn s r2 := by
      have := dP KT hs (k := 1) (by omega)
      rw [hc] at this ⊢
      exact this
     rw [hp]
     exact ih (j + 1) (by omega) (m - 1) r2 hr2 (by rw [<- hd]; omega) (by omega) (by rw [hr', List.length_drop] at hlr; omega) (by omega)
 have := key 0 n r (by simp) (by simp) (by omega) (by omega) (by omega)
 exact this
end
end Go.Dec
namespace Go.Dec
def POK (s : List UInt8) (l : List Nd) (o : Res Pt) (e : Option (Sum (Int × RdT) (Int × Int × RdT))) : Prop := match o with
 | .ok t r b en => e = some (.inl (t.top l.length, s, psn s r, (b : Int), en, l ++ t.enc l.length, ()))
 | .er c k => ∃ x : RdT, e = some (.inr ((c : Int), ((s.length - k : Nat) : Int), x))
section
variable {n : Nat} {s r : List UInt8} {b : Nat} {en : List Bool} {l : List Nd}
theorem Wx (k : Nat) : ((k : Int) == (-1)) = false := by rw [Bool.eq_false_iff, ne_eq, beq_iff_eq]; omega
theorem zal (k : Nat) : ((k : Int) != (-1)) = true := by rw [bne, Wx]; rfl
theorem MP {t : Pt} {lo hi : Int} (h : r <:+ s) (hl : l.length + t.sz < 900000) : POK s l (vw t lo hi r b en) (
  ob (bI n (6, [0, 0, 0, 0], t.top l.length, 0, lo, hi, 0, s, psn s r, (b : Int), en, l ++ t.enc l.length, ())) fun y8 =>
  ob (aS n ([42], y8.2.1, y8.2.2.1, y8.2.2.2.1, y8.2.2.2.2.1, y8.2.2.2.2.2.1, ())) fun y9 =>
  br y9.1 (
   ob2 (aD n (43, y9.2.2.1, y9.2.1, y9.2.2.1, y9.2.2.2.1, y9.2.2.2.2.1, y9.2.2.2.2.2.1, ())) (fun y10 =>
    none) (fun y10 =>
    some (.inr (y10.1, y10.2.1, y10.2.2.1, y10.2.2.2.1, y10.2.2.2.2.1, y10.2.2.2.2.2.1, y10.2.2.2.2.2.2.1, ())))) (
   ob (aS n ([92, 123], y9.2.1, y9.2.2.1, y9.2.2.2.1, y9.2.2.2.2.1, y9.2.2.2.2.2.1, ())) fun y11 =>
   br y11.1 (
    ob2 (aD n (43, y11.2.2.1, y11.2.1, y11.2.2.1, y11.2.2.2.1, y11.2.2.2.2.1, y11.2.2.2.2.2.1, ())) (fun y12 =>
     none) (fun y12 =>
     some (.inr (y12.1, y12.2.1, y12.2.2.1, y12.2.2.2.1, y12.2.2.2.2.1, y12.2.2.2.2.2.1, y12.2.2.2.2.2.2.1, ())))) (
    some (.inl (y8.1, y11.2.1, y11.2.2.1, y11.2.2.2.1, y11.2.2.2.2.1, y11.2.2.2.2.2.1, ()))))) := by
 rw [Bw (by rw [List.length_append, Pt.aZ]; omega)]
 simp only [aA]
 rw [pY h]
 simp only [aA]
 unfold vw
 cases [42].isPrefixOf r
 ·simp only [aM, Bool.false_or]
  rw [pY h]
  simp only [aA]
  cases [92, 123].isPrefixOf r
  ·simp only [aM, cond_false, POK, Pt.enc, Pt.top, Pt.sz, List.length_append, Pt.aZ, List.append_assoc]
   congr 3; omega
  ·simp only [aR, cond_true, fA, iR]
   exact ⟨_, rfl⟩
 ·simp only [aR, Bool.true_or, cond_true, fA, iR]
  exact ⟨_, rfl⟩
theorem Zu {t : Pt} (h : r <:+ s) (hs : s.length < 1000000) (hn : 10 <= n) (hl : l.length + t.sz < 900000) :
  POK s l (jV t r b en) (lT n (t.top l.length, s, psn s r, (b : Int), en, l ++ t.enc l.length, ())) := by
 unfold lT jV
 simp only
 cases h1 : [42].isPrefixOf r
 case true =>
  rw [nN h hs h1]
  simp only [aA, aR, cond_true]
  exact MP (kM h 1) hl
 rw [nO h h1]
 simp only [aA, aM, cond_false]
 cases h2 : [92, 123].isPrefixOf r
 case false =>
  rw [nO h h2]
  simp only [aA, Bool.not_false, aR, cond_false, POK]
 rw [nN h hs h2]
 simp only [aA, Bool.not_true, aM, cond_true]
 have hg : ∀ {x : RdT}, POK s l (.er 43 r.length) (some (.inr (43, psn s r, x))) := fun {x} => ⟨x, rfl⟩
 have s2 : r.drop 2 <:+ s := kM h 2
 rw [show ([92, 123] : List UInt8).length = 2 from rfl, O9 s2 hs hn]
 have n2 : (gW (r.drop 2)).2 <:+ s := kM s2 _
 cases hlo : gW (r.drop 2) with
 | mk lo r1 =>
  rw [hlo] at n2
  simp only [aA] at n2 ⊢
  cases h3 : [44].isPrefixOf r1
  ·rw [nO n2 h3]
   simp only [aA, aM]
   cases lo with
   | none =>
    simp only [EM]
    rw [au (by rfl), fA]
    exact hg
   | some lo =>
    simp only [EM, h3, cond_false]
    rw [aj (Wx lo)]
    cases h4 : [92, 125].isPrefixOf r1
    ·rw [nO n2 h4]
     simp only [aA, Bool.not_false, aR, fA, iR, Bool.false_and, cond_false]
     exact hg
    rw [nN n2 hs h4]
    simp only [aA, Bool.not_true, aM, Bool.true_and]
    by_cases h5 : lo <= 255
    ·rw [aj (by simp; omega), aj (by simp; omega), au (zal lo), decide_eq_true h5]
     by_cases h6 : 1 <= lo
     ·rw [aj (by simp; split <;> omega), decide_eq_true h6]
      exact MP (kM n2 2) hl
     ·rw [au (by simp; omega), decide_eq_false h6, fA]
      exact hg
    ·rw [au (by simp; omega), decide_eq_false h5, fA]
     exact hg
  ·rw [nN n2 hs h3]
   simp only [aA, aR]
   have s3 : r1.drop 1 <:+ s := kM n2 1
   rw [show ([44] : List UInt8).length = 1 from rfl, O9 s3 hs hn]
   have n3 : (gW (r1.drop 1)).2 <:+ s := kM s3 _
   cases hhi : gW (r1.drop 1) with
   | mk hi r2 =>
    rw [hhi] at n3
    simp only [aA] at n3 ⊢
    cases lo with
    | none =>
     simp only [EM]
     rw [au (by rfl), fA]
     exact hg
    | some lo =>
     simp only [EM, h3, cond_true]
     rw [aj (Wx lo)]
     cases hi with
     | none =>
      simp only [hhi]
      cases h4 : [92, 125].isPrefixOf r2
      ·rw [nO n3 h4]
       simp only [aA, Bool.not_false, aR, fA, iR, Bool.false_and, cond_false]
       exact hg
      rw [nN n3 hs h4]
      simp only [aA, Bool.not_true, aM, Bool.true_and]
      by_cases h5 : lo <= 255
      ·rw [aj (by simp; omega), decide_eq_true h5, aj (by rfl), aj (by rfl)]
       exact MP (kM n3 2) hl
      ·rw [au (by simp; omega), decide_eq_false h5, fA]
       exact hg
     | some hi =>
      simp only [hhi]
      cases h4 : [92, 125].isPrefixOf r2
      ·rw [nO n3 h4]
       simp only [aA, Bool.not_false, aR, fA, iR, Bool.false_and, cond_false]
       exact hg
      rw [nN n3 hs h4]
      simp only [aA, Bool.not_true, aM, Bool.true_and]
      by_cases h5 : lo <= 255
      ·rw [aj (by simp; omega), decide_eq_true h5]
       by_cases h6 : hi <= 255
       ·rw [aj (by simp; omega), au (zal hi), decide_eq_true h6]
        by_cases h7 : lo <= hi
        ·by_cases h8 : 1 <= hi
         ·rw [aj (by simp; split <;> omega), decide_eq_true h7, decide_eq_true h8]
          exact MP (kM n3 2) hl
         ·rw [au (by simp; split <;> omega), decide_eq_false h8, decide_eq_true h7, fA]
          exact hg
        ·rw [au (by simp; split <;> omega), decide_eq_false h7, fA]
         exact hg
       ·rw [au (by simp; omega), decide_eq_false h6, fA]
        exact hg
      ·rw [au (by simp; omega), decide_eq_false h5, fA]
       exact hg
end
end Go.Dec
namespace Go.Dec
def Wy (e : Nat) : Prop := 40 <= e ∧ e <= 44
def Cm (t : Pt) (r : List UInt8) (b : Nat) (en : List Bool) : Res Pt -> Prop
 | .ok t' r' b' en' => r' <:+ r ∧ b' = b ∧ en' = en ∧ t'.sz + 3 * r'.length <= t.sz + 3 * r.length
 | .er e _ => Wy e
theorem Sv {t : Pt} {lo hi : Int} {r0 r : List UInt8} {b : Nat} {en : List Bool} (h : r <:+ r0) (h2 : r.length < r0.length) : Cm t r0 b en (vw t lo hi r b en) := by
 unfold vw
 cases [42].isPrefixOf r || [92, 123].isPrefixOf r
 ·exact ⟨h, rfl, rfl, by simp only [Pt.sz]; omega⟩
 ·exact ⟨by omega, by omega⟩
theorem xL (r : List UInt8) : (gW r).2 <:+ r := List.drop_suffix _ _
theorem EN (t : Pt) (r : List UInt8) (b : Nat) (en : List Bool) : Cm t r b en (jV t r b en) := by
 have hg : ∀ k, Cm t r b en (.er 43 k) := fun k => ⟨by omega, by omega⟩
 unfold jV
 cases h1 : [42].isPrefixOf r
 case true =>
  have := dD h1
  simp only [List.length_cons, List.length_nil] at this
  exact Sv (List.drop_suffix _ _) (by rw [List.length_drop]; omega)
 simp only [cond_false]
 cases h2 : [92, 123].isPrefixOf r
 case false => exact ⟨List.suffix_refl _, rfl, rfl, Nat.le_refl _⟩
 simp only [cond_true]
 have hp := dD h2
 simp only [List.length_cons, List.length_nil] at hp
 have n2 := xL (r.drop 2)
 cases hlo : gW (r.drop 2) with
 | mk lo r1 =>
  rw [hlo] at n2
  simp only at n2
  have l2 := n2.length_le
  rw [List.length_drop] at l2
  have hf : ∀ {lo hi : Int} {x : List UInt8}, x <:+ r1 -> Cm t r b en (vw t lo hi (x.drop 2) b en) := by
   intro lo hi x hx
   have l3 := hx.length_le
   exact Sv ((List.drop_suffix _ _).trans (hx.trans (n2.trans (List.drop_suffix _ _)))) (by rw [List.length_drop]; omega)
  cases lo with
  | none => exact hg _
  | some lo =>
   simp only
   cases [44].isPrefixOf r1
   ·simp only [cond_false]
    cases [92, 125].isPrefixOf r1 && decide (lo <= 255) && decide (1 <= lo)
    ·exact hg _
    ·exact hf (List.suffix_refl _)
   ·simp only [cond_true]
    have n3 := (xL (r1.drop 1)).trans (List.drop_suffix 1 r1)
    cases hhi : gW (r1.drop 1) with
    | mk hi r2 =>
     rw [hhi] at n3
     cases hi with
     | none =>
      simp only
      cases [92, 125].isPrefixOf r2 && decide (lo <= 255)
      ·exact hg _
      ·exact hf n3
     | some hi =>
      simp only
      cases [92, 125].isPrefixOf r2 && decide (lo <= 255) && decide (hi <= 255) && decide (lo <= hi) && decide (1 <= hi)
      ·exact hg _
      ·exact hf n3
def EO (r : List UInt8) : Res Pt -> Prop
 | .ok t r' b' en' => r' <:+ r ∧ t.sz + 2 + 3 * r'.length <= 3 * r.length ∧ b' <= 9 ∧ en'.length = 10
 | .er e _ => Wy e
def xM (r : List UInt8) : Res (Option Pt) -> Prop
 | .ok t r' b' en' => r' <:+ r ∧ (match t with | none => 0 | some t => t.sz + 1) + 3 * r'.length <= 3 * r.length ∧ b' <= 9 ∧ en'.length = 10
 | .er e _ => Wy e
theorem Ig {row : List UInt8 -> Nat -> List Bool -> Res (Option Pt)} {first : Bool} {r : List UInt8} {b : Nat} {en : List Bool} (hb : b <= 9) (he : en.length = 10)
  (hrow : ∀ r, b + 1 <= 9 -> xM r (row r (b + 1) en)) : EO r (jB row first r b en) := by
 have hg : ∀ e k, 40 <= e -> e <= 44 -> EO r (.er e k) := fun e k h1 h2 => ⟨h1, h2⟩
 unfold jB
 cases r with
 | nil => exact hg _ _ (by omega) (by omega)
 | cons c r1 =>
  have hone : ∀ p, EO (c :: r1) (.ok (.bytes p) r1 b en) := fun p => ⟨List.suffix_cons _ _, by simp only [Pt.sz, List.length_cons]; omega, hb, he⟩
  simp only
  cases c == 46
  case true => exact hone _
  simp only [cond_false]
  cases c == 91
  case true =>
   simp only [cond_true]
   cases hk : tO (c :: r1) with
   | none => exact hg _ _ (by omega) (by omega)
   | some x =>
    obtain ⟨p, k⟩ := x
    have := KQ hk
    exact ⟨List.drop_suffix _ _, by simp only [Pt.sz, List.length_drop]; omega, hb, he⟩
  simp only [cond_false]
  cases c == 92
  case false => exact hone _
  simp only [cond_true]
  cases r1 with
  | nil => exact hg _ _ (by omega) (by omega)
  | cons d r2 =>
   have Zv : ∀ t : Pt, t.sz = 1 -> EO (c :: d :: r2) (.ok t r2 b en) := fun t ht => ⟨(List.suffix_cons _ _).trans (List.suffix_cons _ _), by simp only [ht, List.length_cons]; omega, hb, he⟩
   simp only
   cases d == 40
   case true =>
    simp only [cond_true]
    cases hb9 : b == 9
    case true => exact hg _ _ (by omega) (by omega)
    have hb9 : b ≠ 9 := by simpa using hb9
    simp only [cond_false]
    have hr := hrow r2 (by omega)
    cases ho : row r2 (b + 1) en with
    | er e k => rw [ho] at hr; exact hr
    | ok t r3 b3 en3 =>
     rw [ho] at hr
     obtain ⟨h1, h2, h3, h4⟩ := hr
     cases t with
     | none => exact hg _ _ (by omega) (by omega)
     | some t =>
      simp only
      cases hp : [92, 41].isPrefixOf r3
      ·exact hg _ _ (by omega) (by omega)
      ·have hl := dD hp
       simp only [List.length_cons, List.length_nil] at hl
       refine ⟨(List.drop_suffix _ _).trans (h1.trans ((List.suffix_cons _ _).trans (List.suffix_cons _ _))), ?_, h3, ?_⟩
       ·simp only [Pt.sz, List.length_drop, List.length_cons]
        simp only at h2
        omega
       ·rw [List.length_set]; exact h4
   simp only [cond_false]
   cases decide (49 <= d.toNat) && decide (d.toNat <= 57)
   case true =>
    simp only [cond_true]
    cases en.getD (d.toNat - 48) false
    ·exact hg _ _ (by omega) (by omega)
    ·exact Zv _ rfl
   simp only [cond_false]
   cases d == 110
   case true => exact Zv _ rfl
   simp only [cond_false]
   cases iK.contains d
   case true => exact Zv _ rfl
   simp only [cond_false]
   cases d == 123 && first
   ·exact hg _ _ (by omega) (by omega)
   ·exact hg _ _ (by omega) (by omega)
theorem Ih {row : List UInt8 -> Nat -> List Bool -> Res (Option Pt)} {f0 : Nat} {first : Bool} {r : List UInt8} {b : Nat} {en : List Bool} {t : Pt} {r' : List UInt8} {b' : Nat} {en' : List Bool}
  (hrow : ∀ r b en, en.length = 10 -> b + 1 <= 9 -> 11 <= f0 + (b + 1) -> ∀ t r' b' en', row r (b + 1) en = .ok t r' b' en' -> b + 1 <= b') (he : en.length = 10) (hb : b <= 9) (hf0 : 10 <= f0 + b)
  (h : jB row first r b en = .ok t r' b' en') : b <= b' := by
 unfold jB at h
 cases r with
 | nil => simp at h
 | cons c r1 =>
  simp only at h
  cases h1 : c == 46 <;> rw [h1] at h <;> simp only [cond_true, cond_false, Res.ok.injEq] at h
  case true => omega
  cases h2 : c == 91 <;> rw [h2] at h <;> simp only [cond_true, cond_false] at h
  case true =>
   cases h3 : tO (c :: r1) with
   | none => rw [h3] at h; simp at h
   | some x => rw [h3] at h; simp only [Res.ok.injEq] at h; omega
  cases h3 : c == 92 <;> rw [h3] at h <;> simp only [cond_true, cond_false, Res.ok.injEq] at h
  case false => omega
  cases r1 with
  | nil => simp at h
  | cons d r2 =>
   simp only at h
   cases h4 : d == 40 <;> rw [h4] at h <;> simp only [cond_true, cond_false] at h
   case true =>
    cases h5 : b == 9 <;> rw [h5] at h <;> simp only [cond_true, cond_false] at h
    case true => simp at h
    have hb9 : b ≠ 9 := by simpa using h5
    have hr := hrow r2 b en he (by omega) (by omega)
    cases ho : row r2 (b + 1) en with
    | er e k => rw [ho] at h; simp at h
    | ok t r3 b3 en3 =>
     have := hr _ _ _ _ ho
     rw [ho] at h
     cases t with
     | none => simp at h
     | some t =>
      simp only at h
      cases h6 : [92, 41].isPrefixOf r3 <;> rw [h6] at h <;> simp only [cond_true, cond_false, Res.ok.injEq] at h
      ·simp at h
      ·omega
   cases h5 : decide (49 <= d.toNat) && decide (d.toNat <= 57) <;> rw [h5] at h <;> simp only [cond_true, cond_false] at h
   case true =>
    cases h6 : en.getD (d.toNat - 48) false <;> rw [h6] at h <;> simp only [cond_true, cond_false, Res.ok.injEq] at h
    ·simp at h
    ·omega
   cases h6 : d == 110 <;> rw [h6] at h <;> simp only [cond_true, cond_false, Res.ok.injEq] at h
   case true => omega
   cases h7 : iK.contains d <;> rw [h7] at h <;> simp only [cond_true, cond_false, Res.ok.injEq] at h
   case true => omega
   cases h8 : d == 123 && first <;> rw [h8] at h <;> simp at h
def szL : List Pt -> Nat
 | [] => 0
 | t :: ts => t.sz + 1 + szL ts
theorem oU : ∀ (a b : List Pt), szL (a ++ b) = szL a + szL b
 | [], b => by simp [szL]
 | t :: a, b => by simp [szL, oU a b]; omega
theorem U0 : ∀ (ts : List Pt), (match iU ts with | none => 0 | some t => t.sz + 1) = szL ts
 | [] => rfl
 | t :: ts => by
  have := U0 ts
  unfold iU szL
  cases h : iU ts with
  | none => rw [h] at this; simp only at this ⊢; omega
  | some u => rw [h] at this; simp only [Pt.sz] at this ⊢; omega
def XW (r : List UInt8) (acc : List Pt) : Res (List Pt) -> Prop
 | .ok ts r' b' en' => r' <:+ r ∧ szL ts + 3 * r'.length <= szL acc + 3 * r.length ∧ b' <= 9 ∧ en'.length = 10
 | .er e _ => Wy e
theorem MQ {row : List UInt8 -> Nat -> List Bool -> Res (Option Pt)} {f0 : Nat} (hrow : ∀ r b en, en.length = 10 -> b + 1 <= 9 -> 11 <= f0 + (b + 1) -> xM r (row r (b + 1) en) ∧ ∀ t r' b' en', row r (b + 1) en = .ok t r' b' en' -> b + 1 <= b') :
  ∀ (f : Nat) (first : Bool) (r : List UInt8) (b : Nat) (en : List Bool) (acc : List Pt), r.length < f -> b <= 9 -> en.length = 10 -> 10 <= f0 + b -> XW r acc (fG row f first r b en acc) ∧ ∀ t r' b' en', fG row f first r b en acc = .ok t r' b' en' -> b <= b' := by
 intro f
 induction f with
 | zero => intro first r b en acc h; omega
 | succ f ih =>
  intro first r b en acc hf hb he hf0
  unfold fG
  cases hc : eG r
  case true =>
   refine ⟨⟨List.suffix_refl _, Nat.le_refl _, hb, he⟩, ?_⟩
   intro t r' b' en' h
   simp only [cond_true, Res.ok.injEq] at h
   omega
  simp only [cond_false]
  cases hd : [36].isPrefixOf r && eG (r.drop 1)
  case true =>
   simp only [Bool.and_eq_true] at hd
   have := dD hd.1
   simp only [List.length_cons, List.length_nil] at this
   refine ⟨⟨List.drop_suffix _ _, ?_, hb, he⟩, ?_⟩
   ·rw [oU]; simp only [szL, Pt.sz, List.length_drop]; omega
   ·intro t r' b' en' h
    simp only [cond_true, Res.ok.injEq] at h
    omega
  simp only [cond_false]
  have ha := Ig (first := first) (r := r) hb he (fun r hb => (hrow r b en he hb (by omega)).1)
  have hab : ∀ t r' b' en', jB row first r b en = .ok t r' b' en' -> b <= b' := fun t r' b' en' h => Ih (f0 := f0) (fun r b en he hb hf => (hrow r b en he hb hf).2) he hb hf0 h
  cases ho : jB row first r b en with
  | er e k => rw [ho] at ha; exact ⟨ha, by intro t r' b' en' h; simp at h⟩
  | ok t r1 b1 en1 =>
   have hb1 := hab _ _ _ _ ho
   rw [ho] at ha
   obtain ⟨a1, a2, a3, a4⟩ := ha
   simp only
   have ht := EN t r1 b1 en1
   cases ho2 : jV t r1 b1 en1 with
   | er e k => rw [ho2] at ht; exact ⟨ht, by intro t r' b' en' h; simp at h⟩
   | ok t2 r2 b2 en2 =>
    rw [ho2] at ht
    obtain ⟨c1, rfl, rfl, c4⟩ := ht
    simp only
    have hlen := c1.length_le
    have hlen1 := a1.length_le
    have ht2 := t.bT
    have := ih false r2 b2 en2 (acc ++ [t2]) (by omega) a3 a4 (by omega)
    cases ho3 : fG row f false r2 b2 en2 (acc ++ [t2]) with
    | er e k => rw [ho3] at this; exact ⟨this.1, by intro t r' b' en' h; simp at h⟩
    | ok ts r4 b4 en4 =>
     rw [ho3] at this
     obtain ⟨⟨d1, d2, d3, d4⟩, d5⟩ := this
     have d5 := d5 _ _ _ _ rfl
     refine ⟨⟨d1.trans (c1.trans a1), ?_, d3, d4⟩, ?_⟩
     ·rw [oU] at d2; simp only [szL] at d2; omega
     ·intro t r' b' en' h
      simp only [Res.ok.injEq] at h
      omega
theorem og : ∀ (f : Nat) (r : List UInt8) (b : Nat) (en : List Bool), 11 <= f + b -> b <= 9 -> en.length = 10 -> xM r (dx f r b en) ∧ ∀ t r' b' en', dx f r b en = .ok t r' b' en' -> b <= b' := by
 intro f
 induction f with
 | zero => intro r b en h hb; omega
 | succ f ih =>
  intro r b en hf hb he
  unfold dx
  simp only
  have hr1 : (bif [94].isPrefixOf r then r.drop 1 else r) <:+ r := by
   cases [94].isPrefixOf r
   ·exact List.suffix_refl _
   ·exact List.drop_suffix _ _
  have hacc : szL (bif [94].isPrefixOf r then [Pt.bol] else []) + 3 * (bif [94].isPrefixOf r then r.drop 1 else r).length <= 3 * r.length := by
   cases h : [94].isPrefixOf r
   ·simp [szL]
   ·have := dD h
    simp only [List.length_cons, List.length_nil] at this
    simp [szL, Pt.sz]; omega
  have := MQ (row := dx f) (f0 := f) (fun r b en he hb hf => ih r (b + 1) en hf hb he) ((bif [94].isPrefixOf r then r.drop 1 else r).length + 1) true (bif [94].isPrefixOf r then r.drop 1 else r) b en (bif [94].isPrefixOf r then [Pt.bol] else []) (by omega) hb he (by omega)
  cases ho : fG (dx f) ((bif [94].isPrefixOf r then r.drop 1 else r).length + 1) true (bif [94].isPrefixOf r then r.drop 1 else r) b en (bif [94].isPrefixOf r then [Pt.bol] else []) with
  | er e k => rw [ho] at this; exact ⟨this.1, by intro t r' b' en' h; simp at h⟩
  | ok ts r2 b2 en2 =>
   rw [ho] at this
   obtain ⟨⟨d1, d2, d3, d4⟩, d5⟩ := this
   have d5 := d5 _ _ _ _ rfl
   refine ⟨⟨d1.trans hr1, ?_, d3, d4⟩, ?_⟩
   ·rw [U0]; omega
   ·intro t r' b' en' h
    simp only [Res.ok.injEq] at h
    omega
end Go.Dec
namespace Go.Dec
def ROK (s : List UInt8) (l : List Nd) (o : Res (Option Pt)) (e : Option (Sum (Int × RdT) (Int × Int × RdT))) : Prop := match o with
 | .ok none r b en => e = some (.inl (-1, s, psn s r, (b : Int), en, l, ()))
 | .ok (some t) r b en => e = some (.inl (t.top l.length, s, psn s r, (b : Int), en, l ++ t.enc l.length, ()))
 | .er c k => ∃ x : RdT, e = some (.inr ((c : Int), ((s.length - k : Nat) : Int), x))
theorem Ue : ((List.range 256).all fun i => decide (Go.Lib.indexByte iK (UInt8.ofNat i) ≥ 0) == iK.contains (UInt8.ofNat i)) = true := by decide +kernel
theorem I6 (d : UInt8) : UInt8.ofNat d.toNat = d := by simp
theorem Wz {n : Nat} (d : UInt8) : (ob (strings_IndexByte n ([46, 91, 92, 42, 94, 36, 47], (d.toNat : Int))) fun y => some (decide (y ≥ 0))) = some (iK.contains d) := by
 have := qh Ue d.toNat_lt
 rw [beq_iff_eq, I6] at this
 unfold strings_IndexByte
 simp only [aA, Int.toNat_natCast]
 rw [show (d.toNat).toUInt8 = d from I6 d]
 rw [<- this]; rfl
theorem zcB (d : UInt8) : wd (bE d.toNat d.toNat) = wd (vB d) := rP fun i hi => by
 simp only [bE, vB]; rw [Bool.eq_iff_iff]; simp; omega
theorem XY (d : UInt8) : wd (ofP [d]) = wd (vB d) := rP fun i hi => by
 simp only [ofP, vB]; rw [Bool.eq_iff_iff]; simp; omega
section
variable {n : Nat} {s r : List UInt8} {b : Nat} {en : List Bool} {l : List Nd} {rw' : RdT -> Option (Sum (Int × RdT) (Int × Int × RdT))} {row : List UInt8 -> Nat -> List Bool -> Res (Option Pt)}
theorem Sw {o : Res Pt} {e : Option (Sum (Int × RdT) (Int × Int × RdT))} (h : POK s l o e) : POK s l o (ob2 e (fun y11 =>
          some (.inl (y11.1, y11.2.1, y11.2.2.1, y11.2.2.2.1, y11.2.2.2.2.1, y11.2.2.2.2.2.1, ()))) (fun y11 =>
          some (.inr (y11.1, y11.2.1, y11.2.2.1, y11.2.2.2.1, y11.2.2.2.2.1, y11.2.2.2.2.2.1, y11.2.2.2.2.2.2.1, ())))) := by
  cases o with
  | er c k => obtain ⟨x, h⟩ := h; rw [h]; exact ⟨_, rfl⟩
  | ok t r b en => simp only [POK] at h; rw [h]; rfl
theorem Ii {p : Nat -> Bool} (hl : l.length < 900000) : POK s l (.ok (.bytes p) r b en) (ob (bY n (wd p, s, psn s r, (b : Int), en, l, ())) fun y => some (.inl (y.1, y.2.1, y.2.2.1, y.2.2.2.1, y.2.2.2.2.1, y.2.2.2.2.2.1, ()))) := by
 rw [Zt (by omega)]
 simp only [aA, POK, Pt.top, Pt.sz]
 congr 3; omega
theorem Zw {k : Nat} (h : r <:+ s) (hs : s.length < 100000) (hl : l.length + 3 * r.length < 800000) (he : en.length = 10) (hb : b <= 9)
    (hrow : b + 1 <= 9 -> xM r (row r (b + 1) en) ∧ ROK s l (row r (b + 1) en) (rw' (s, psn s r, ((b + 1 : Nat) : Int), en, l, ()))) :
    POK s l (bif b == 9 then .er 41 k
          else match row r (b + 1) en with
            | .er e k => .er e k
            | .ok none _ _ _ => .er 41 k
            | .ok (some t) r3 b3 en3 => bif [92, 41].isPrefixOf r3 then .ok (.group t (b + 1)) (r3.drop 2) b3 (en3.set (b + 1) true) else .er 41 k)
      (lU n rw' (((s.length - k : Nat) : Int), s, psn s r, (b : Int), en, l, ())) := by
  have hg : ∀ {x : RdT}, POK s l (.er 41 k) (some (.inr (41, ((s.length - k : Nat) : Int), x))) := fun {x} => ⟨x, rfl⟩
  unfold lU
  simp only
  cases h9 : b == 9
  case true =>
    have : b = 9 := by simpa using h9
    rw [au (by simp [this]), fA]
    exact hg
  have h9 : b ≠ 9 := by simpa using h9
  rw [aj (by simp; omega), aK (by omega) (by omega)]
  obtain ⟨hgood, hok⟩ := hrow (by omega)
  rw [show (b : Int) + 1 = ((b + 1 : Nat) : Int) from rfl]
  simp only [cond_false]
  cases ho : row r (b + 1) en with
  | er e k2 =>
    rw [ho] at hok
    obtain ⟨x, hok⟩ := hok
    rw [hok]
    exact ⟨_, rfl⟩
  | ok t r3 b3 en3 =>
    rw [ho] at hok hgood
    obtain ⟨g1, g2, g3, g4⟩ := hgood
    have hs3 : r3 <:+ s := g1.trans h
    cases t with
    | none =>
      simp only [ROK] at hok
      rw [hok]
      simp only [zZ]
      rw [au (by rfl), fA]
      exact hg
    | some t =>
      simp only [ROK] at hok
      rw [hok]
      simp only [zZ]
      have htop : (t.top l.length == (-1)) = false := by
        rw [Bool.eq_false_iff, ne_eq, beq_iff_eq]; unfold Pt.top; have := t.bT; omega
      rw [aj htop]
      cases hp : [92, 41].isPrefixOf r3
      · rw [nO hs3 hp]
        simp only [aA, Bool.not_false, aR, fA, iR, cond_false]
        exact hg
      · rw [nN hs3 (by omega) hp]
        simp only [aA, Bool.not_true, aM, cond_true]
        rw [ah (cK (by omega) (by omega)), ah (by simp; omega)]
        simp only at g2
        rw [Bw (by rw [List.length_append, Pt.aZ]; omega)]
        simp only [aA, POK, Pt.enc, Pt.top, Pt.sz, List.length_append, Pt.aZ, List.append_assoc, Int.toNat_natCast]
        congr 3; omega
theorem zba {first : Bool} (h : r <:+ s) (hne : r ≠ []) (hs : s.length < 100000) (hn : s.length + 500 <= n) (hl : l.length + 3 * r.length < 800000) (he : en.length = 10) (hb : b <= 9)
  (hrow : ∀ r2, r2 <:+ r -> r2.length < r.length -> b + 1 <= 9 -> xM r2 (row r2 (b + 1) en) ∧ ROK s l (row r2 (b + 1) en) (rw' (s, psn s r2, ((b + 1 : Nat) : Int), en, l, ()))) :
  POK s l (jB row first r b en) (nk n rw' (first, s, psn s r, (b : Int), en, l, ())) := by
 have hlen := iP h
 unfold nk jB
 cases r with
 | nil => exact absurd rfl hne
 | cons c r1 =>
  simp only
  simp only [List.length_cons] at hl hlen
  have h1 : r1 <:+ s := (List.suffix_cons _ _).trans h
  have e46 : [46].isPrefixOf (c :: r1) = (46 == c) := by simp [List.isPrefixOf]
  have e91 : [91].isPrefixOf (c :: r1) = (91 == c) := by simp [List.isPrefixOf]
  have e92 : [92].isPrefixOf (c :: r1) = (92 == c) := by simp [List.isPrefixOf]
  rw [qK c 46, qK c 91, qK c 92]
  cases h46 : (46 == c)
  case true =>
   rw [nN h (by omega) (by rw [e46, h46])]
   simp only [aA, aR, cond_true]
   have := MJ (n := n) (by omega) (fun _ => false)
   rw [mM] at this
   rw [this]
   simp only [aA]
   exact Ii (r := r1) (by omega)
  rw [nO h (by rw [e46, h46])]
  simp only [aA, aM, cond_false]
  rw [pY h, e91]
  simp only [aA]
  cases h91 : (91 == c)
  case true =>
   simp only [aR, cond_true]
   rw [ah (Sr h), sV, vC h, Oi (by omega) (by simp only [List.length_cons]; omega) (by simp only [List.length_cons]; omega)]
   simp only [aA]
   cases hk : tO (c :: r1) with
   | none =>
    simp only [Zq]
    rw [au (by rfl), fA]
    exact ⟨_, rfl⟩
   | some x =>
    obtain ⟨p, k⟩ := x
    have hk2 := KQ hk
    simp only [Zq]
    rw [aj (by rfl), dP h (by omega) hk2.2]
    exact Ii (r := (c :: r1).drop k) (by omega)
  simp only [aM, cond_false]
  rw [pY h, e92]
  simp only [aA]
  have hp1 : IntKind.wrap .i64 (psn s (c :: r1) + 1) = psn s r1 := dP h (by omega) (k := 1) (by simp)
  cases h92 : (92 == c)
  case false =>
   simp only [aM, cond_false]
   rw [hp1]
   have e0 : IntKind.wrap .i64 (psn s r1 - 1) = psn s (c :: r1) := by
    rw [<- hp1, aK (x := psn s (c :: r1) + 1) (by unfold psn; omega) (by unfold psn; omega), aK (by unfold psn; omega) (by unfold psn; omega)]; omega
   rw [e0]
   have hps : psn s (c :: r1) = ((s.length - (r1.length + 1) : Nat) : Int) := rfl
   have Sy : psn s r1 = ((s.length - r1.length : Nat) : Int) := rfl
   rw [ah (by rw [hps, Sy]; simp; omega), sV, sV]
   have e : (s.take (s.length - r1.length)).drop (s.length - (c :: r1).length) = [c] := by
    rw [List.drop_take, vC h]
    simp only [List.length_cons]
    rw [show s.length - r1.length - (s.length - (r1.length + 1)) = 1 by omega]; rfl
   rw [e, H8 _ (by simp; omega) (by simp), XY]
   simp only [aA]
   exact Ii (r := r1) (by omega)
  simp only [aR, cond_true]
  refine Sw ?_
  unfold ni
  simp only
  rw [hp1, Ah h1]
  cases r1 with
  | nil =>
   simp only [List.isEmpty_nil, aR, fA, iR]
   exact ⟨_, rfl⟩
  | cons d r2 =>
   have h2 : r2 <:+ s := (List.suffix_cons _ _).trans h1
   simp only [List.length_cons] at hlen hl
   simp only [List.isEmpty_cons, aM]
   have hin : inB (psn s (d :: r2)) s.length = true := cK (by unfold psn; omega) (by unfold psn; simp only [List.length_cons]; omega)
   have hgd : aG 0 s (psn s (d :: r2)) = d := by
    have := vK (d := 0) h1 (j := 0) (c := d) rfl
    simpa using this
   have hp2 : IntKind.wrap .i64 (psn s (d :: r2) + 1) = psn s r2 := dP h1 (by omega) (k := 1) (by simp)
   rw [ah hin, hgd, hp2]
   have e40 : ((d.toNat : Int) == 40) = (d == 40) := by rw [qK]; exact eqI 40
   have Zx : ((d.toNat : Int) == 110) = (d == 110) := by rw [qK]; exact eqI 110
   have Zy : ((d.toNat : Int) == 123) = (d == 123) := by rw [qK]; exact eqI 123
   rw [e40, Zx, Zy]
   cases h40 : (d == 40)
   case true =>
    simp only [aR, cond_true]
    have hG := Zw (n := n) (row := row) (rw' := rw') (k := (c :: d :: r2).length) (l := l) (en := en) (b := b) h2 hs (by omega) he hb (fun hb9 => hrow r2 ((List.suffix_cons _ _).trans (List.suffix_cons _ _)) (by simp only [List.length_cons]; omega) hb9)
    have hpk : ((s.length - (c :: d :: r2).length : Nat) : Int) = psn s (c :: d :: r2) := rfl
    rw [hpk] at hG
    exact Sw hG
   simp only [aM, cond_false]
   have hrest : POK s l (bif d == 110 then .ok (.bytes (vB 10)) r2 b en
    else bif iK.contains d then .ok (.bytes (vB d)) r2 b en
    else bif d == 123 && first then .er 43 (c :: d :: r2).length
    else .er 40 (c :: d :: r2).length) (
     br (d == 110) (
      ob (ng n [10]) fun y15 =>
      ob (bY n (y15, s, psn s r2, (b : Int), en, l, ())) fun y16 =>
      some (.inl (y16.1, y16.2.1, y16.2.2.1, y16.2.2.2.1, y16.2.2.2.2.1, y16.2.2.2.2.2.1, ()))) (
      ob (strings_IndexByte n ([46, 91, 92, 42, 94, 36, 47], (d.toNat : Int))) fun y17 =>
      br (decide (y17 ≥ 0)) (
       ob (bU n ((d.toNat : Int), (d.toNat : Int))) fun y18 =>
       ob (bY n (y18, s, psn s r2, (b : Int), en, l, ())) fun y19 =>
       some (.inl (y19.1, y19.2.1, y19.2.2.1, y19.2.2.2.1, y19.2.2.2.2.1, y19.2.2.2.2.2.1, ()))) (
       br (d == 123) (
        br first (
         ob2 (aD n (43, psn s (c :: d :: r2), s, psn s r2, (b : Int), en, l, ())) (fun y20 =>
          none) (fun y20 =>
          some (.inr (y20.1, y20.2.1, y20.2.2.1, y20.2.2.2.1, y20.2.2.2.2.1, y20.2.2.2.2.2.1, y20.2.2.2.2.2.2.1, ())))) (
         ob2 (aD n (40, psn s (c :: d :: r2), s, psn s r2, (b : Int), en, l, ())) (fun y21 =>
          none) (fun y21 =>
          some (.inr (y21.1, y21.2.1, y21.2.2.1, y21.2.2.2.1, y21.2.2.2.2.1, y21.2.2.2.2.2.1, y21.2.2.2.2.2.2.1, ()))))) (
        ob2 (aD n (40, psn s (c :: d :: r2), s, psn s r2, (b : Int), en, l, ())) (fun y22 =>
         none) (fun y22 =>
         some (.inr (y22.1, y22.2.1, y22.2.2.1, y22.2.2.2.1, y22.2.2.2.2.1, y22.2.2.2.2.2.1, y22.2.2.2.2.2.2.1, ()))))))) := by
    cases zem : (d == 110)
    case true =>
     simp only [aR, cond_true]
     rw [H8 _ (by simp; omega) (by simp), XY]
     simp only [aA]
     exact Ii (by omega)
    simp only [aM, cond_false]
    have hsp := Wz (n := n) d
    cases hix : strings_IndexByte n ([46, 91, 92, 42, 94, 36, 47], (d.toNat : Int)) with
    | none => rw [hix] at hsp; exact absurd hsp (by simp [ob])
    | some y =>
     rw [hix] at hsp
     simp only [aA, Option.some.injEq] at hsp ⊢
     rw [hsp]
     cases iK.contains d
     case true =>
      simp only [aR, cond_true]
      rw [wL (by omega) d.toNat_lt d.toNat_lt, zcB]
      simp only [aA]
      exact Ii (by omega)
     simp only [aM, cond_false, fA, iR]
     cases (d == 123) <;> cases first <;> exact ⟨_, rfl⟩
   by_cases h49 : 49 <= d.toNat
   ·rw [au (by simp; omega), decide_eq_true h49]
    by_cases h57 : d.toNat <= 57
    ·rw [au (by simp; omega), decide_eq_true h57]
     simp only [Bool.and_self, cond_true]
     have hv : IntKind.wrap .i64 (IntKind.wrap .u8 ((d.toNat : Int) - 48)) = ((d.toNat - 48 : Nat) : Int) := by
      rw [IntWalk.u8_in _ (by omega), aK (by omega) (by omega)]; omega
     rw [hv, ah (cK (by omega) (by omega)), ah (by simp; omega), Int.toNat_natCast, show Ty.dflt .bool = false from rfl]
     cases en.getD (d.toNat - 48) false
     ·simp only [Bool.not_false, aR, fA, iR, cond_false]
      exact ⟨_, rfl⟩
     ·simp only [Bool.not_true, aM, cond_true]
      rw [Bw (by omega)]
      simp only [aA, POK, Pt.enc, Pt.top, Pt.sz]
      congr 3; omega
    ·rw [aj (by simp; omega), decide_eq_false h57, Bool.and_false]
     simp only [cond_false]
     exact hrest
   ·rw [aj (by simp; omega), decide_eq_false h49, Bool.false_and]
    simp only [cond_false]
    exact hrest
end
end Go.Dec
namespace Go.Dec
def szA : List Pt -> Nat
 | [] => 0
 | t :: ts => t.sz + szA ts
def dJ : Nat -> List Pt -> List Nd
 | _, [] => []
 | o, t :: ts => t.enc o ++ dJ (o + t.sz) ts
def eH : Nat -> List Pt -> List Int
 | _, [] => []
 | o, t :: ts => t.top o :: eH (o + t.sz) ts
theorem oV : ∀ (a b : List Pt), szA (a ++ b) = szA a + szA b
 | [], b => by simp [szA]
 | t :: a, b => by simp [szA, oV a b]; omega
theorem Ij : ∀ ts : List Pt, szA ts + ts.length = szL ts
 | [] => rfl
 | t :: ts => by have := Ij ts; simp [szA, szL]; omega
theorem rR : ∀ (ts : List Pt) (o : Nat), (dJ o ts).length = szA ts
 | [], _ => rfl
 | t :: ts, o => by simp [dJ, szA, Pt.aZ, rR ts]
theorem p8 : ∀ (ts : List Pt) (o : Nat) (t : Pt), dJ o (ts ++ [t]) = dJ o ts ++ t.enc (o + szA ts)
 | [], o, t => by simp [dJ, szA]
 | u :: ts, o, t => by simp [dJ, szA, p8 ts, Nat.add_assoc]
theorem yT : ∀ (ts : List Pt) (o : Nat) (t : Pt), eH o (ts ++ [t]) = eH o ts ++ [t.top (o + szA ts)]
 | [], o, t => by simp [eH, szA]
 | u :: ts, o, t => by simp [eH, szA, yT ts, Nat.add_assoc]
theorem nP : ∀ (ts : List Pt) (o : Nat), (eH o ts).length = ts.length
 | [], _ => rfl
 | t :: ts, o => by simp [eH, nP ts]
theorem KU (pre : List Pt) (t : Pt) (post : List Pt) (o : Nat) (d : Int) : (eH o (pre ++ t :: post)).getD pre.length d = t.top (o + szA pre) := by
 induction pre generalizing o with
 | nil => simp [eH, szA]
 | cons u pre ih => simp only [List.cons_append, eH, szA, List.length_cons, List.getD_cons_succ]; rw [ih]; congr 1; omega
theorem EP : ∀ (pre : List Pt) (t : Pt), iU (pre ++ [t]) = some (pre.foldr Pt.cat t)
 | [], t => rfl
 | u :: pre, t => by simp only [List.cons_append, iU, EP pre t, List.foldr_cons]
section
variable {n : Nat} {s : List UInt8} {l : List Nd} {rw' : RdT -> Option (Sum (Int × RdT) (Int × Int × RdT))}
theorem Zz {at' : Int} {b : Int} {en : List Bool} {ts : List Pt} (hl : l.length + szL ts < 900000) : ∀ (k m : Nat) (pre suf : List Pt) (u : Pt), pre.length = k -> ts = pre ++ suf -> szA pre + u.sz + pre.length <= szL ts -> k < m ->
  fix (kR n) m (u.top (l.length + szA pre), (k : Int) - 1, s, at', b, en, l ++ dJ l.length pre ++ u.enc (l.length + szA pre), eH l.length ts, ()) =
   some (.inl ((pre.foldr Pt.cat u).top l.length, s, at', b, en, l ++ (pre.foldr Pt.cat u).enc l.length, ())) := by
 intro k
 induction k with
 | zero =>
  intro m pre suf u hk hts hsz hm
  have : pre = [] := List.eq_nil_of_length_eq_zero hk
  subst this
  rw [aX hm, kR]
  simp only
  rw [aj (by simp)]
  simp [dJ, szA]
 | succ k ih =>
  intro m pre suf u hk hts hsz hm
  obtain ⟨pre', t, rfl⟩ : ∃ pre' t, pre = pre' ++ [t] := by
   rcases List.eq_nil_or_concat pre with rfl | ⟨p, t, rfl⟩
   ·simp at hk
   ·exact ⟨p, t, by simp⟩
  have hk' : pre'.length = k := by simpa using hk
  have KV : ts = pre' ++ t :: suf := by rw [hts]; simp
  have hat := KU pre' t suf l.length 0
  rw [<- KV, hk'] at hat
  have hlen : (eH l.length ts).length = ts.length := nP _ _
  have htl : k < ts.length := by rw [KV]; simp; omega
  rw [aX (by omega), kR]
  simp only
  rw [show ((k + 1 : Nat) : Int) - 1 = (k : Int) by omega]
  rw [au (by simp), hlen, ah (by rw [dM htl]; simp), Int.toNat_natCast, Nat.zero_add, ah (by simp; omega), show Ty.dflt (.int .i64) = (0 : Int) from rfl, hat]
  rw [oV] at hsz
  simp only [szA, List.length_append, List.length_cons, List.length_nil] at hsz
  rw [Bw (by simp only [List.length_append, rR, oV, Pt.aZ, szA]; omega)]
  simp only [aA]
  rw [aK (by omega) (by omega)]
  have hc := ih (m - 1) pre' (t :: suf) (.cat t u) hk' KV (by simp only [Pt.sz]; omega) (by omega)
  have e1 : (((l ++ dJ l.length (pre' ++ [t]) ++ u.enc (l.length + szA (pre' ++ [t]))).length : Nat) : Int) = (Pt.cat t u).top (l.length + szA pre') := by
   simp only [List.length_append, rR, oV, Pt.aZ, szA, Pt.top, Pt.sz]; omega
  have e2 : l ++ dJ l.length (pre' ++ [t]) ++ u.enc (l.length + szA (pre' ++ [t])) ++ [(4, [0, 0, 0, 0], t.top (l.length + szA pre'), u.top (l.length + szA (pre' ++ [t])), 0, 0, 0, ())] = l ++ dJ l.length pre' ++ (Pt.cat t u).enc (l.length + szA pre') := by
   simp only [p8, oV, szA, Pt.enc, List.append_assoc, Nat.add_zero, Nat.add_assoc]
  rw [e1, e2, hc, List.foldr_append]; rfl
theorem Sz {r : List UInt8} {b : Nat} {en : List Bool} {ts : List Pt} (hn : szL ts + 10 <= n) (hl : l.length + szL ts < 900000) :
  ROK s l (.ok (iU ts) r b en) (kS n (s, psn s r, (b : Int), en, l ++ dJ l.length ts, eH l.length ts, ())) := by
 unfold kS
 simp only
 rw [nP]
 have hsl := Ij ts
 rcases List.eq_nil_or_concat ts with rfl | ⟨pre, t, h⟩
 ·rw [au (by rfl)]
  simp [iU, ROK, dJ]
 ·have hts : ts = pre ++ [t] := by rw [h]; simp
  have hlen : ts.length = pre.length + 1 := by rw [hts]; simp
  have hat := KU pre t [] l.length 0
  rw [show pre ++ t :: [] = ts by rw [hts]] at hat
  rw [aj (by simp; exact fun h => by rw [h] at hlen; simp at hlen), hlen]
  rw [aK (x := ((pre.length + 1 : Nat) : Int) - 1) (by omega) (by omega), aK (by omega) (by omega)]
  rw [show ((pre.length + 1 : Nat) : Int) - 1 = (pre.length : Int) by omega, show ((pre.length + 1 : Nat) : Int) - 2 = (pre.length : Int) - 1 by omega]
  rw [ah (by rw [dM (by omega)]; simp), Int.toNat_natCast, Nat.zero_add, ah (by simp), show Ty.dflt (.int .i64) = (0 : Int) from rfl, hat]
  have hc := Zz (n := n) (s := s) (l := l) (at' := psn s r) (b := (b : Int)) (en := en) (ts := ts) hl pre.length n pre [t] t rfl hts (by rw [hts, oV] at hsl; simp only [szA] at hsl; rw [hts]; simp only [List.length_append, List.length_cons, List.length_nil] at hsl; omega) (by omega)
  have e : l ++ dJ l.length ts = l ++ dJ l.length pre ++ t.enc (l.length + szA pre) := by rw [hts, p8, List.append_assoc]
  rw [e, hc]
  have ZA : iU ts = some (pre.foldr Pt.cat t) := by rw [hts]; exact EP pre t
  rw [ZA]
  rfl
theorem Pf {f0 R : Nat} (hs : s.length < 100000) (hn : 3 * s.length + 500 <= n)
  (hrow : ∀ r2 b2 en2 l2, r2 <:+ s -> r2.length < R -> b2 + 1 <= 9 -> 11 <= f0 + (b2 + 1) -> en2.length = 10 -> l2.length + 3 * r2.length < 800000 -> ROK s l2 (dx f0 r2 (b2 + 1) en2) (rw' (s, psn s r2, ((b2 + 1 : Nat) : Int), en2, l2, ()))) :
  ∀ (f m : Nat) (first : Bool) (r : List UInt8) (b : Nat) (en : List Bool) (acc : List Pt), r <:+ s -> r.length <= R -> r.length < f -> f <= m -> b <= 9 -> en.length = 10 -> 10 <= f0 + b -> l.length + szL acc + 3 * r.length < 800000 -> szL acc + 3 * r.length <= 3 * s.length ->
   ROK s l (match fG (dx f0) f first r b en acc with
    | .er e k => .er e k
    | .ok ts r2 b2 en2 => .ok (iU ts) r2 b2 en2) (fix (jd n rw') m (first, s, psn s r, (b : Int), en, l ++ dJ l.length acc, eH l.length acc, ())) := by
 intro f
 induction f with
 | zero => intro m first r b en acc _ _ h; omega
 | succ f ih =>
  intro m first r b en acc h hR hf hm hb he hf0 hl hsz
  have hle := iP h
  have hal := Ij acc
  rw [aX (by omega), jd]
  simp only
  rw [XV h]
  unfold fG
  simp only [aA]
  cases hc : eG r
  case true =>
   simp only [Bool.not_true, aM, cond_true, bX]
   exact Sz (by omega) (by omega)
  simp only [Bool.not_false, aR, cond_false]
  rw [pY h]
  simp only [aA]
  have hne : r ≠ [] := by intro e; subst e; simp [eG] at hc
  have hgo : ROK s l (match (match jB (dx f0) first r b en with
   | .er e k => (.er e k : Res (List Pt))
   | .ok t r1 b1 en1 => match jV t r1 b1 en1 with
    | .er e k => .er e k
    | .ok t2 r2 b2 en2 => fG (dx f0) f false r2 b2 en2 (acc ++ [t2])) with
    | .er e k => .er e k
    | .ok ts r2 b2 en2 => .ok (iU ts) r2 b2 en2) (fM n rw' (fix (jd n rw') (m - 1)) (first, false, s, psn s r, (b : Int), en, l ++ dJ l.length acc, eH l.length acc, ())) := by
   unfold fM
   simp only [aM]
   have hll : (l ++ dJ l.length acc).length = l.length + szA acc := by rw [List.length_append, rR]
   have ha := zba (n := n) (rw' := rw') (row := dx f0) (l := l ++ dJ l.length acc) (first := first) h hne hs (by omega) (by rw [hll]; omega) he hb
    (fun r2 hr2 hlt hb1 => ⟨(og f0 r2 (b + 1) en (by omega) hb1 he).1, hrow r2 b en _ (hr2.trans h) (by omega) hb1 (by omega) he (by rw [hll]; omega)⟩)
   have hg := Ig (row := dx f0) (first := first) (r := r) hb he (fun r hb1 => (og f0 r (b + 1) en (by omega) hb1 he).1)
   have hbb := (MQ (row := dx f0) (f0 := f0) (fun r b en he hb hf => og f0 r (b + 1) en hf hb he) (f + 1) first r b en acc hf hb he hf0)
   cases ho : jB (dx f0) first r b en with
   | er e k =>
    rw [ho] at ha
    obtain ⟨x, ha⟩ := ha
    rw [ha]
    exact ⟨_, rfl⟩
   | ok t r1 b1 en1 =>
    rw [ho] at ha hg
    obtain ⟨g1, g2, g3, g4⟩ := hg
    simp only [POK] at ha
    rw [ha]
    simp only [zZ]
    have h1 : r1 <:+ s := g1.trans h
    have htm := Zu (n := n) (l := l ++ dJ l.length acc) (t := t) (b := b1) (en := en1) h1 (by omega) (by omega) (by rw [hll]; omega)
    have htg := EN t r1 b1 en1
    have htp := t.bT
    rw [hll] at htm ⊢
    cases ho2 : jV t r1 b1 en1 with
    | er e k =>
     rw [ho2] at htm
     obtain ⟨x, htm⟩ := htm
     rw [htm]
     exact ⟨_, rfl⟩
    | ok t2 r2 b2 en2 =>
     rw [ho2] at htm htg
     obtain ⟨c1, rfl, rfl, c4⟩ := htg
     simp only [POK] at htm
     rw [htm]
     simp only [zZ]
     have hc1 := c1.length_le
     have hg1 := g1.length_le
     rw [ah (by rw [nP]; simp [room]; omega), hll]
     have e1 : l ++ dJ l.length acc ++ t2.enc (l.length + szA acc) = l ++ dJ l.length (acc ++ [t2]) := by rw [p8, List.append_assoc]
     have e2 : eH l.length acc ++ [t2.top (l.length + szA acc)] = eH l.length (acc ++ [t2]) := (yT _ _ _).symm
     rw [e1, e2]
     have zcC : b <= b2 := by
      cases hi : jB (dx f0) first r b en with
      | er e k => rw [hi] at ho; exact absurd ho (by simp)
      | ok t' r' b' en' =>
       rw [hi] at ho
       simp only [Res.ok.injEq] at ho
       have := Ih (row := dx f0) (f0 := f0) (fun r b en he hb hf => (og f0 r (b + 1) en hf hb he).2) he hb hf0 hi
       omega
     exact ih (m - 1) false r2 b2 en2 (acc ++ [t2]) (c1.trans h1) (by omega) (by omega) (by omega) g3 g4 (by omega) (by rw [oU]; simp only [szL]; omega) (by rw [oU]; simp only [szL]; omega)
  have hend : ∀ r1, r = 36 :: r1 -> ROK s l (.ok (iU (acc ++ [.eol])) r1 b en) (fM n rw' (fix (jd n rw') (m - 1)) (first, true, s, psn s r, (b : Int), en, l ++ dJ l.length acc, eH l.length acc, ())) := by
   intro r1 hr
   unfold fM
   simp only [aR]
   have hrl : r.length = r1.length + 1 := by rw [hr]; rfl
   have hp : IntKind.wrap .i64 (psn s r + 1) = psn s r1 := by
    have := dP h (by omega) (k := 1) (by omega)
    rw [hr] at this ⊢
    exact this
   have hll : (l ++ dJ l.length acc).length = l.length + szA acc := by rw [List.length_append, rR]
   rw [hp, Bw (by rw [hll]; omega)]
   simp only [aA]
   rw [ah (by rw [nP]; simp [room]; omega), bX, hll]
   have e1 : l ++ dJ l.length acc ++ [(3, [0, 0, 0, 0], 0, 0, 0, 0, 0, ())] = l ++ dJ l.length (acc ++ [.eol]) := by rw [p8, List.append_assoc]; rfl
   have e2 : eH l.length acc ++ [((l.length + szA acc : Nat) : Int)] = eH l.length (acc ++ [.eol]) := by
    rw [yT]; congr 2; simp only [Pt.top, Pt.sz]; omega
   rw [e1, e2]
   exact Sz (by rw [oU]; simp only [szL, Pt.sz]; omega) (by rw [oU]; simp only [szL, Pt.sz]; omega)
  cases hd : [36].isPrefixOf r
  ·simp only [aM, Bool.false_and, cond_false, bX]
   exact hgo
  ·obtain ⟨r1, hr⟩ := zel hd
   simp only [aR, Bool.true_and, bX]
   have hrl : r.length = r1.length + 1 := by rw [hr]; rfl
   have hp : IntKind.wrap .i64 (psn s r + 1) = psn s r1 := by
    have := dP h (by omega) (k := 1) (by omega)
    rw [hr] at this ⊢
    exact this
   have h1 : r1 <:+ s := by rw [hr] at h; exact (List.suffix_cons _ _).trans h
   rw [hp, Ah h1, show r.drop 1 = r1 by rw [hr]; rfl]
   unfold eG
   cases hem : r1.isEmpty
   ·simp only [aM, Bool.false_or]
    rw [pY h, show [36, 92, 41].isPrefixOf r = [92, 41].isPrefixOf r1 by rw [hr]; simp [List.isPrefixOf]]
    simp only [aA]
    cases [92, 41].isPrefixOf r1
    ·exact hgo
    ·exact hend r1 hr
   ·simp only [aR, Bool.true_or, cond_true]
    exact hend r1 hr
theorem zcD : ∀ (f n : Nat) (r : List UInt8) (b : Nat) (en : List Bool) (l : List Nd), s.length < 100000 -> 3 * s.length + 500 + f <= n -> r <:+ s -> 11 <= f + b -> b <= 9 -> en.length = 10 -> l.length + 3 * r.length < 800000 -> ROK s l (dx f r b en) (gV n (s, psn s r, (b : Int), en, l, ())) := by
 intro f
 induction f with
 | zero => intro n r b en l _ _ _ h hb; omega
 | succ f ih =>
  intro n r b en l hs hn h hf hb he hl
  obtain ⟨n, rfl⟩ : ∃ k, n = k + 1 := ⟨n - 1, by omega⟩
  have hle := iP h
  have SA : gV (n + 1) (s, psn s r, (b : Int), en, l, ()) = mg n (gV n) (s, psn s r, (b : Int), en, l, ()) := rfl
  rw [SA]
  unfold mg dx
  simp only
  cases h94 : [94].isPrefixOf r
  ·rw [nO h h94]
   simp only [aA, aM, cond_false, bX, kT]
   have := Pf (n := n) (s := s) (l := l) (rw' := gV n) (f0 := f) (R := r.length) hs (by omega)
    (fun r2 b2 en2 l2 h2 _ hb2 hf2 he2 hl2 => ih n r2 (b2 + 1) en2 l2 hs (by omega) h2 hf2 hb2 he2 hl2) (r.length + 1) n true r b en [] h (Nat.le_refl _) (by omega) (by omega) hb he (by omega) (by simp only [szL]; omega) (by simp only [szL]; omega)
   simp only [dJ, eH, List.append_nil] at this
   exact this
  ·rw [nN h (by omega) h94]
   have hp := dD h94
   simp only [List.length_cons, List.length_nil] at hp
   simp only [aA, aR, cond_true]
   rw [Bw (by omega)]
   simp only [aA]
   rw [ah (by simp [room]), bX, kT]
   simp only
   have hd := List.length_drop (i := 1) (l := r)
   have := Pf (n := n) (s := s) (l := l) (rw' := gV n) (f0 := f) (R := r.length) hs (by omega)
    (fun r2 b2 en2 l2 h2 _ hb2 hf2 he2 hl2 => ih n r2 (b2 + 1) en2 l2 hs (by omega) h2 hf2 hb2 he2 hl2) ((r.drop 1).length + 1) n true (r.drop 1) b en [.bol] (kM h 1) (by omega) (by omega) (by omega) hb he (by omega) (by simp only [szL, Pt.sz]; omega) (by simp only [szL, Pt.sz]; omega)
   have e2 : eH l.length [.bol] = [((l.length : Nat) : Int)] := by simp only [eH, Pt.top, Pt.sz]; congr 1; omega
   simp only [dJ, Pt.enc, List.append_nil] at this
   rw [e2] at this
   exact this
end
theorem XZ {row : List UInt8 -> Nat -> List Bool -> Res (Option Pt)} : ∀ (f : Nat) (first : Bool) (r : List UInt8) (b : Nat) (en : List Bool) (acc ts : List Pt) (r' : List UInt8) (b' : Nat) (en' : List Bool), fG row f first r b en acc = .ok ts r' b' en' -> (ts = acc ∧ r' = r) ∨ acc.length < ts.length := by
 intro f
 induction f with
 | zero => intro first r b en acc ts r' b' en' h; simp [fG] at h
 | succ f ih =>
  intro first r b en acc ts r' b' en' h
  unfold fG at h
  cases hc : eG r <;> rw [hc] at h <;> simp only [cond_true, cond_false, Res.ok.injEq] at h
  case true => exact Or.inl ⟨h.1.symm, h.2.1.symm⟩
  cases hd : [36].isPrefixOf r && eG (r.drop 1) <;> rw [hd] at h <;> simp only [cond_true, cond_false, Res.ok.injEq] at h
  case true => exact Or.inr (by rw [<- h.1]; simp)
  cases ho : jB row first r b en with
  | er e k => rw [ho] at h; simp at h
  | ok t r1 b1 en1 =>
   rw [ho] at h
   simp only at h
   cases ho2 : jV t r1 b1 en1 with
   | er e k => rw [ho2] at h; simp at h
   | ok t2 r2 b2 en2 =>
    rw [ho2] at h
    simp only at h
    rcases ih _ _ _ _ _ _ _ _ _ h with ⟨h1, _⟩ | h1
    ·exact Or.inr (by rw [h1]; simp)
    ·exact Or.inr (by simp at h1; omega)
theorem FE {f : Nat} {r r' : List UInt8} {b b' : Nat} {en en' : List Bool} (h : dx f r b en = .ok none r' b' en') : r' = r := by
 cases f with
 | zero => simp [dx] at h
 | succ f =>
  unfold dx at h
  simp only at h
  cases ho : fG (dx f) ((bif [94].isPrefixOf r then r.drop 1 else r).length + 1) true (bif [94].isPrefixOf r then r.drop 1 else r) b en (bif [94].isPrefixOf r then [Pt.bol] else []) with
  | er e k => rw [ho] at h; simp at h
  | ok ts r2 b2 en2 =>
   rw [ho] at h
   simp only [Res.ok.injEq] at h
   have hts : ts = [] := by
    rcases List.eq_nil_or_concat ts with hh | ⟨p, t, hh⟩
    ·exact hh
    ·rw [hh, List.concat_eq_append, EP] at h; simp at h
   rcases XZ _ _ _ _ _ _ _ _ _ _ ho with ⟨h1, h2⟩ | h1
   ·rw [hts] at h1
    cases h94 : [94].isPrefixOf r
    ·rw [h94] at h2; rw [<- h.2.1, h2]; rfl
    ·rw [h94] at h1; simp at h1
   ·rw [hts] at h1; simp at h1
def DV : Sum Pt (Nat × Nat) -> List Nd × Int × Int
 | .inl t => (t.enc 0, 0, 0)
 | .inr (e, k) => ([], (k : Int), (e : Int))
theorem SB {n : Nat} {s : List UInt8} (hs : s.length < 100000) (hn : 3 * s.length + 600 <= n) : oZ n s = some (DV (nM s)) := by
 unfold oZ
 simp only
 cases s with
 | nil => rfl
 | cons c s0 =>
  generalize hsv : c :: s0 = s at *
  have hne : s ≠ [] := by rw [<- hsv]; simp
  rw [aj (by simpa using hne)]
  have hps : nM s = match dx 11 s 0 gN with
   | .er e k => .inr (e, s.length - k)
   | .ok t r _ _ =>
    match r with
    | [] => match t with
     | none => .inr (41, s.length)
     | some t => bif decide (t.sz > 120) then .inr (2, 0) else .inl t
    | _ => .inr (41, s.length - r.length) := by rw [<- hsv]; rfl
  rw [hps]
  have hrow := zcD (s := s) 11 n s 0 gN [] hs (by omega) (List.suffix_refl _) (by omega) (by omega) rfl (by simp; omega)
  have hgood := (og 11 s 0 gN (by omega) (by omega) rfl).1
  have hp0 : psn s s = 0 := by unfold psn; omega
  rw [hp0] at hrow
  unfold gq tZ
  simp only
  have WA : ([false, false, false, false, false, false, false, false, false, false] : List Bool) = gN := rfl
  rw [WA]
  cases ho : dx 11 s 0 gN with
  | er e k =>
   rw [ho] at hrow hgood
   obtain ⟨x, hrow⟩ := hrow
   obtain ⟨e1, e2⟩ := hgood
   rw [show (((0 : Nat) : Int)) = 0 from rfl] at hrow
   rw [hrow]
   simp only [iR, aA]
   rw [au (by simp; omega)]
   rfl
  | ok t r b2 en2 =>
   rw [ho] at hrow hgood
   obtain ⟨g1, g2, g3, g4⟩ := hgood
   have hgl := g1.length_le
   have hlt : ∀ c r', r = c :: r' -> psn s r < (s.length : Int) := by
    intro c r' hr; rw [hr] at hgl ⊢; unfold psn; simp only [List.length_cons] at hgl ⊢; omega
   have hrow' : ∃ top row, gV n (s, 0, 0, gN, [], ()) = some (.inl (top, s, psn s r, (b2 : Int), en2, row, ())) ∧ (match t with | none => True | some t => row = t.enc 0) := by
    cases t with
    | none => exact ⟨_, _, hrow, trivial⟩
    | some t => exact ⟨_, _, hrow, by simp⟩
   obtain ⟨top, row, hr1, hr2⟩ := hrow'
   rw [hr1]
   simp only [zZ]
   cases hr : r with
   | cons c2 r2 =>
    have := hlt c2 r2 hr
    rw [hr] at this
    rw [au (decide_eq_true this), fA]
    simp only [iR, aA]
    rw [au (by rfl)]
    rfl
   | nil =>
    have he : psn s [] = (s.length : Int) := by unfold psn; simp
    rw [aj (by rw [he]; simp)]
    cases t with
    | none =>
     exfalso
     have := FE ho
     rw [hr] at this
     exact absurd this hne.symm
    | some t =>
     simp only at hr2 g2 ⊢
     rw [hr2, Pt.aZ]
     by_cases Ik : t.sz > 120
     ·rw [au (by simp; omega), decide_eq_true Ik, fA]
      simp only [iR, aA, cond_true]
      rw [au (by rfl)]
      rfl
     ·rw [aj (by simp; omega), decide_eq_false Ik]
      simp only [zZ, aA, cond_false]
      rw [aj (by rfl)]
      rfl
end Go.Dec
namespace Go.Dec
theorem WB (s : List UInt8) : match nM s with
  | .inl t => s ≠ [] -> t.sz <= 120
  | .inr (e, k) => k <= s.length ∧ (e = 2 ∨ (40 <= e ∧ e <= 44)) := by
 cases s with
 | nil => simp [nM]
 | cons c s0 =>
  have hps : nM (c :: s0) = match dx 11 (c :: s0) 0 gN with
   | .er e k => .inr (e, (c :: s0).length - k)
   | .ok t r _ _ =>
    match r with
    | [] => match t with
     | none => .inr (41, (c :: s0).length)
     | some t => bif decide (t.sz > 120) then .inr (2, 0) else .inl t
    | _ => .inr (41, (c :: s0).length - r.length) := rfl
  rw [hps]
  have hgood := (og 11 (c :: s0) 0 gN (by omega) (by omega) rfl).1
  cases ho : dx 11 (c :: s0) 0 gN with
  | er e k =>
   rw [ho] at hgood
   exact ⟨by omega, Or.inr hgood⟩
  | ok t r b2 en2 =>
   simp only
   cases r with
   | cons c2 r2 => exact ⟨by omega, Or.inr ⟨by omega, by omega⟩⟩
   | nil =>
    cases t with
    | none => exact ⟨by omega, Or.inr ⟨by omega, by omega⟩⟩
    | some t =>
     simp only
     by_cases h : t.sz > 120
     ·rw [decide_eq_true h]
      exact ⟨by omega, Or.inl rfl⟩
     ·rw [decide_eq_false h]
      exact fun _ => by omega
end Go.Dec
namespace Go.Dec
section
variable {ρ : Type} {s r : List UInt8}
theorem pk1 (h : r <:+ s) (c : UInt8) {k : Int} (hk : (c.toNat : Int) = k) {X Y : Option ρ} :
  br (decide (psn s r < (s.length : Int))) (chk (inB (psn s r) s.length) (br (((aG 0 s (psn s r)).toNat : Int) == k) X Y)) Y = bif [c].isPrefixOf r then X else Y := by
 have hl := iP h
 cases r with
 | nil => rw [aj (by unfold psn; simp)]; rfl
 | cons d r1 =>
  simp only [List.length_cons] at hl
  have hg : aG 0 s (psn s (d :: r1)) = d := by
   have := vK (d := 0) h (j := 0) (c := d) rfl
   simpa using this
  rw [au (by unfold psn; simp; omega), ah (cK (by unfold psn; omega) (by unfold psn; simp only [List.length_cons]; omega)), hg, <- hk, eqI c]
  rw [show [c].isPrefixOf (d :: r1) = (c == d) by simp [List.isPrefixOf]]
  cases (c == d) <;> rfl
theorem take_at (h : r <:+ s) {k : Nat} (hk : k <= r.length) : (s.take (psn s (r.drop k)).toNat).drop (psn s r).toNat = r.take k := by
 have hl := iP h
 rw [sV, sV, List.drop_take, vC h, List.length_drop]
 congr 1; omega
theorem pk2 (h : r <:+ s) (hs : s.length < 1000000) (a b : UInt8) {X Y : Option ρ} :
  br (decide (IntKind.wrap .i64 (psn s r + 1) < (s.length : Int))) (
   chk (decide (0 <= IntKind.wrap .i64 (psn s r + 2)) && decide (IntKind.wrap .i64 (psn s r + 2) <= (s.length : Int)) && (decide (0 <= psn s r) && decide (psn s r <= IntKind.wrap .i64 (psn s r + 2)))) (
    br ((s.take (IntKind.wrap .i64 (psn s r + 2)).toNat).drop (psn s r).toNat == [a, b]) X Y)) Y = bif [a, b].isPrefixOf r then X else Y := by
 have hl := iP h
 have hw1 : IntKind.wrap .i64 (psn s r + 1) = psn s r + 1 := aK (by unfold psn; omega) (by unfold psn; omega)
 rw [hw1]
 by_cases h2 : 2 <= r.length
 ·have hw : IntKind.wrap .i64 (psn s r + 2) = psn s (r.drop 2) := dP h hs (k := 2) h2
  have hd := Bv h (k := 2) h2
  rw [au (by unfold psn; simp; omega), hw, ah (by rw [hd]; unfold psn; simp; omega), take_at h h2]
  match r, h2 with
  | c :: d :: r1, _ =>
   have e : (List.take 2 (c :: d :: r1) == [a, b]) = [a, b].isPrefixOf (c :: d :: r1) := by
    rw [Bool.eq_iff_iff]; simp [List.isPrefixOf]
    exact ⟨fun ⟨h1, h2⟩ => ⟨h1.symm, h2.symm⟩, fun ⟨h1, h2⟩ => ⟨h1.symm, h2.symm⟩⟩
   rw [e]
   cases [a, b].isPrefixOf (c :: d :: r1) <;> rfl
 ·rw [aj (by unfold psn; simp; omega)]
  have : [a, b].isPrefixOf r = false := by
   cases hp : [a, b].isPrefixOf r
   ·rfl
   ·have := dD hp
    simp only [List.length_cons, List.length_nil] at this
    omega
  rw [this]; rfl
theorem SC (b : Bool) (X Y : Option ρ) : br b X Y = bif b then X else Y := by cases b <;> rfl
end
abbrev StT : Type := List Nd × Int × List Bool × Int × Int × Unit
section
variable {n : Nat} {s r : List UInt8} {b : Nat} {en : List Bool} {l : List Nd}
theorem SE (h : r <:+ s) (hs : s.length < 1000000) : oI n (s, psn s r) = some (eG r) := by
 unfold oI
 simp only
 rw [Ah h]
 unfold eG
 have := pk2 (ρ := Bool) h hs 92 41 (X := some true) (Y := some false)
 cases r.isEmpty
 ·simp only [aM, Bool.false_or]
  have e : ∀ x : Bool, some x = br x (some true) (some false) := by intro x; cases x <;> rfl
  rw [e ((s.take _).drop _ == _), this]
  cases [92, 41].isPrefixOf r <;> rfl
 ·rfl
theorem Bz {a1 a2 : Int} {nd : Nd} {bb : Int} (hl : l.length < 1000000) : dZ n ((l, bb, en, a1, a2, ()), nd) = some (l ++ [nd], bb, en, a1, a2, ()) := by
 unfold dZ
 simp only
 rw [ah (by simp [room]; omega), ah (by simp [room]; omega)]
 simp
theorem zbb {p : Nat -> Bool} {a1 a2 bb : Int} (hn : 300 <= n) (hl : l.length < 1000000) : fC n ((l, bb, en, a1, a2, ()), bx p) = some (l ++ (Pt.bytes p).enc l.length, bb, en, a1, a2, ()) := by
 unfold fC
 simp only
 rw [Oh hn]
 simp only [aA]
 rw [Bz hl]; rfl
theorem I7 {x : StT} {i e : Int} : aT n (x, i, e) = some (x.1, x.2.1, x.2.2.1, i, e, ()) := rfl
theorem Il (a : List UInt8) (c : UInt8) : mW (a ++ [c]) = mW a * 10 + (c.toNat - 48) := by
 simp [mW, List.foldl_append]
theorem ZB : ∀ {a : List UInt8}, a.all isDigit = true -> mW a < 10 ^ a.length := by
 intro a
 induction h : a.length generalizing a with
 | zero => intro _; rw [List.eq_nil_of_length_eq_zero h]; decide
 | succ k ih =>
  intro ha
  rcases List.eq_nil_or_concat a with rfl | ⟨p, c, hc⟩
  ·simp at h
  ·have hc : a = p ++ [c] := by rw [hc]; simp
   subst hc
   simp only [List.all_append, Bool.and_eq_true, List.all_cons, List.all_nil, Bool.and_true] at ha
   have hp : p.length = k := by simpa using h
   have := ih hp ha.1
   have hd := ha.2
   unfold isDigit at hd
   simp only [Bool.and_eq_true, decide_eq_true_eq] at hd
   rw [Il, Nat.pow_succ]; omega
def Ol (s : List UInt8) : Option Nat × List UInt8 -> Int × Int
 | (none, _) => (0, -1)
 | (some k, r) => ((k : Int), psn s r)
theorem SF (h : r <:+ s) (hs : s.length < 1000000) (hn : 10 <= n) : oJ n (s, psn s r) = some (Ol s (gW r)) := by
 unfold oJ
 simp only
 have hl := iP h
 have hk := Oj 3 r
 have hfin : ∀ {v : Int}, v = (mW (r.take (dO 3 r)) : Int) -> br (psn s (r.drop (dO 3 r)) == psn s r) (some (0, (-1))) (some (v, psn s (r.drop (dO 3 r)))) = some (Ol s (gW r)) := by
  intro v hv
  have e : (psn s (r.drop (dO 3 r)) == psn s r) = (dO 3 r == 0) := by
   rw [Bv h hk.2, Bool.eq_iff_iff, beq_iff_eq, beq_iff_eq]; omega
  rw [e, hv]
  simp only [gW]
  cases dO 3 r == 0 <;> rfl
 have key : ∀ (j m : Nat) (r' : List UInt8), r' = r.drop j -> j + dO (3 - j) r' = dO 3 r -> j <= 3 -> j <= r.length -> 4 - j <= m -> fix (nD n) m (s, psn s r, (mW (r.take j) : Int), psn s r', ()) = some (Ol s (gW r)) := by
  intro j
  induction hm : 3 - j generalizing j with
  | zero =>
   intro m r' hr' hd hj hjl hmm
   have hj3 : j = 3 := by omega
   rw [aX (by omega), nD]
   simp only
   have e : dO 3 r = j := by rw [<- hd]; simp [dO]
   have er : r' = r.drop (dO 3 r) := by rw [e]; exact hr'
   have hlim : decide (psn s r' < IntKind.wrap .i64 (psn s r + 3)) = false := by
    rw [hr', show (3 : Int) = ((3 : Nat) : Int) from rfl, dP h hs (by omega), hj3]; simp
   rw [er] at hlim ⊢
   rw [hlim, aM, hfin (by rw [e])]
   cases decide (psn s (r.drop (dO 3 r)) < (s.length : Int)) <;> rfl
  | succ q ih =>
   intro m r' hr' hd hj hjl hmm
   have KT : r' <:+ s := by rw [hr']; exact kM h j
   rw [aX (by omega), nD]
   simp only
   have hlim : decide (psn s r' < IntKind.wrap .i64 (psn s r + 3)) = true := by
    rw [hr', Bv h hjl, aK (by unfold psn; omega) (by unfold psn; omega)]; simp; omega
   cases hc : r' with
   | nil =>
    rw [hc] at hd
    have e : dO 3 r = j := by rw [<- hd]; rfl
    have er : r' = r.drop (dO 3 r) := by rw [e]; exact hr'
    rw [<- hc, aj (by unfold psn; rw [hc]; simp), er]
    exact hfin (by rw [e])
   | cons c r2 =>
    rw [<- hc]
    rw [hc] at hd
    have hlr : r'.length = r2.length + 1 := by rw [hc]; rfl
    have hle := iP KT
    have hg : aG 0 s (psn s r') = c := by
     have := vK (d := 0) KT (j := 0) (c := c) (by rw [hc]; rfl)
     simpa using this
    have hib : inB (psn s r') s.length = true := cK (by unfold psn; omega) (by unfold psn; omega)
    rw [au (by unfold psn; simp; omega), au hlim, ah hib, hg, ah hib, ah hib]
    have hdd : dO (q + 1) (c :: r2) = bif isDigit c then dO q r2 + 1 else 0 := rfl
    rw [hdd] at hd
    cases hdg : isDigit c
    ·rw [hdg] at hd
     simp only [cond_false, Nat.add_zero] at hd
     have er : r' = r.drop (dO 3 r) := by rw [<- hd]; exact hr'
     unfold isDigit at hdg
     have hF := hfin (v := (mW (r.take j) : Int)) (by rw [<- hd])
     rw [<- er] at hF
     rw [hF]
     by_cases h48 : 48 <= c.toNat
     ·have h57 : ¬ c.toNat <= 57 := by
       intro h57; simp [h48, h57] at hdg
      rw [au (by simp; omega), aj (by simp; omega)]
     ·rw [aj (by simp; omega)]
    ·rw [hdg] at hd
     simp only [cond_true] at hd
     unfold isDigit at hdg
     simp only [Bool.and_eq_true, decide_eq_true_eq] at hdg
     rw [au (by simp; omega), au (by simp; omega)]
     have hr2 : r2 = r.drop (j + 1) := by rw [<- List.drop_drop, <- hr', hc]; rfl
     have hp : IntKind.wrap .i64 (psn s r' + 1) = psn s r2 := by
      have := dP KT hs (k := 1) (by omega)
      rw [hc] at this ⊢
      exact this
     have hjr : j < r.length := by rw [hr', List.length_drop] at hlr; omega
     have hcj : r[j]? = some c := by
      have : (r.drop j)[0]? = some c := by rw [<- hr', hc]; rfl
      rw [List.getElem?_drop] at this; simpa using this
     have htk : r.take (j + 1) = r.take j ++ [c] := by
      rw [List.take_add_one, hcj]; rfl
     have hall : (r.take j).all isDigit = true := by
      have h1 := KS 3 r
      have h2 : r.take j = (r.take (dO 3 r)).take j := by rw [List.take_take]; congr 1; omega
      rw [h2, List.all_eq_true]
      rw [List.all_eq_true] at h1
      exact fun x hx => h1 x (List.mem_of_mem_take hx)
     have hlt := ZB hall
     have hlt2 : mW (r.take j) < 1000 := Nat.lt_of_lt_of_le hlt (Nat.le_trans (Nat.pow_le_pow_right (by omega) (show (r.take j).length <= 3 by rw [List.length_take]; omega)) (by omega))
     rw [hp, IntWalk.u8_in _ (by omega), aK (x := (c.toNat : Int) - 48) (by omega) (by omega), aK (x := (mW (r.take j) : Int) * 10) (by omega) (by omega), aK (by omega) (by omega)]
     have ev : (mW (r.take j) : Int) * 10 + ((c.toNat : Int) - 48) = (mW (r.take (j + 1)) : Int) := by
      rw [htk, Il]; omega
     rw [ev]
     exact ih (j + 1) (by omega) (m - 1) r2 hr2 (by rw [<- hd]; omega) (by omega) (by omega) (by omega)
 have := key 0 n r (by simp) (by simp) (by omega) (by omega) (by omega)
 exact this
def QOK (s : List UInt8) (l : List Nd) (o : Res Pt) (e : Option (StT × Int)) : Prop := match o with
 | .ok t r b en => e = some ((l ++ t.enc l.length, (b : Int), en, 0, 0, ()), psn s r)
 | .er c k => ∃ (l' : List Nd) (b' : Int) (en' : List Bool) (i' : Int), e = some ((l', b', en', ((s.length - k : Nat) : Int), (c : Int), ()), i')
theorem zam {t : Pt} {lo hi A : Int} (h : r <:+ s) (hs : s.length < 1000000) (hl : l.length + t.sz < 900000) (hA : A = IntKind.wrap .i64 (((l ++ t.enc l.length).length : Int) - 1)) : QOK s l (vw t lo hi r b en) (
  ob (dZ n ((l ++ t.enc l.length, (b : Int), en, 0, 0, ()), (6, ([0, 0, 0, 0], (A, (0, (lo, (hi, (0, ()))))))))) fun y4 =>
    br (decide (psn s r < (s.length : Int))) (
     chk (inB (psn s r) s.length) (
      br (((aG 0 s (psn s r)).toNat : Int) == 42) (
       ob (aT n (y4, psn s r, 43)) fun y6 =>
       some (y6, psn s r)) (
       br (decide (IntKind.wrap .i64 (psn s r + 1) < (s.length : Int))) (
        chk ((decide (0 <= IntKind.wrap .i64 (psn s r + 2)) && decide (IntKind.wrap .i64 (psn s r + 2) <= (s.length : Int)) && (decide (0 <= psn s r) && decide (psn s r <= IntKind.wrap .i64 (psn s r + 2))))) (
         br ((s.take (IntKind.wrap .i64 (psn s r + 2)).toNat).drop (psn s r).toNat == [92, 123]) (
          ob (aT n (y4, psn s r, 43)) fun y10 =>
          some (y10, psn s r)) (
          some (y4, psn s r)))) (
        some (y4, psn s r))))) (
     br (decide (IntKind.wrap .i64 (psn s r + 1) < (s.length : Int))) (
      chk ((decide (0 <= IntKind.wrap .i64 (psn s r + 2)) && decide (IntKind.wrap .i64 (psn s r + 2) <= (s.length : Int)) && (decide (0 <= psn s r) && decide (psn s r <= IntKind.wrap .i64 (psn s r + 2))))) (
       br ((s.take (IntKind.wrap .i64 (psn s r + 2)).toNat).drop (psn s r).toNat == [92, 123]) (
        ob (aT n (y4, psn s r, 43)) fun y14 =>
        some (y14, psn s r)) (
        some (y4, psn s r)))) (
      some (y4, psn s r)))) := by
 rw [Bz (by rw [List.length_append, Pt.aZ]; omega)]
 simp only [aA, I7]
 rw [pk2 h hs, pk1 h 42 (k := 42) rfl]
 unfold vw
 have hA2 : A = t.top l.length := by
  rw [hA, List.length_append, Pt.aZ, aK (by omega) (by omega)]; rfl
 cases [42].isPrefixOf r
 ·cases [92, 123].isPrefixOf r
  ·simp only [cond_false, Bool.false_or, QOK, Pt.enc, List.append_assoc, hA2]
  ·exact ⟨_, _, _, _, rfl⟩
 ·exact ⟨_, _, _, _, rfl⟩
def uw (r : List UInt8) : Option (Int × Int × List UInt8) :=
 match gW r with
 | (none, _) => none
 | (some lo, r1) =>
  bif [44].isPrefixOf r1 then
   match gW (r1.drop 1) with
   | (none, r2) => bif [92, 125].isPrefixOf r2 && decide (lo <= 255) then some ((lo : Int), -1, r2.drop 2) else none
   | (some hi, r2) => bif [92, 125].isPrefixOf r2 && decide (lo <= 255) && decide (hi <= 255) && decide (lo <= hi) && decide (1 <= hi) then some ((lo : Int), (hi : Int), r2.drop 2) else none
  else bif [92, 125].isPrefixOf r1 && decide (lo <= 255) && decide (1 <= lo) then some ((lo : Int), (lo : Int), r1.drop 2) else none
theorem SG (t : Pt) : jV t r b en = bif [42].isPrefixOf r then vw t 0 (-1) (r.drop 1) b en
  else bif [92, 123].isPrefixOf r then match uw (r.drop 2) with
   | none => .er 43 r.length
   | some (lo, hi, r2) => vw t lo hi r2 b en
  else .ok t r b en := by
 unfold jV uw
 cases [42].isPrefixOf r
 ·simp only [cond_false]
  cases [92, 123].isPrefixOf r
  ·rfl
  ·simp only [cond_true]
   cases gW (r.drop 2) with
   | mk lo r1 =>
    cases lo with
    | none => rfl
    | some lo =>
     simp only
     cases [44].isPrefixOf r1
     ·simp only [cond_false]
      cases [92, 125].isPrefixOf r1 && decide (lo <= 255) && decide (1 <= lo) <;> rfl
     ·simp only [cond_true]
      cases gW (r1.drop 1) with
      | mk hi r2 =>
       cases hi with
       | none => simp only; cases [92, 125].isPrefixOf r2 && decide (lo <= 255) <;> rfl
       | some hi => simp only; cases [92, 125].isPrefixOf r2 && decide (lo <= 255) && decide (hi <= 255) && decide (lo <= hi) && decide (1 <= hi) <;> rfl
 ·rfl
def ZC (s : List UInt8) : Option (Int × Int × List UInt8) -> Int × Int × Int
 | none => (0, 0, -1)
 | some (lo, hi, r) => (lo, hi, psn s r)
theorem WC (h : r <:+ s) (hs : s.length < 1000000) {a b : UInt8} {X Y : Option (Int × Int × Int)} :
  br (decide (IntKind.wrap .i64 (psn s r + (([a, b] : List UInt8).length : Int)) > (s.length : Int))) Y (
   chk (decide (0 <= IntKind.wrap .i64 (psn s r + (([a, b] : List UInt8).length : Int))) && decide (IntKind.wrap .i64 (psn s r + (([a, b] : List UInt8).length : Int)) <= (s.length : Int)) && (decide (0 <= psn s r) && decide (psn s r <= IntKind.wrap .i64 (psn s r + (([a, b] : List UInt8).length : Int))))) (
    br (!((s.take (IntKind.wrap .i64 (psn s r + (([a, b] : List UInt8).length : Int))).toNat).drop (psn s r).toNat == [a, b])) Y X)) = bif [a, b].isPrefixOf r then X else Y := by
 have hl := iP h
 have e2 : ((([a, b] : List UInt8).length : Nat) : Int) = 2 := rfl
 rw [e2]
 by_cases h2 : 2 <= r.length
 ·have hw : IntKind.wrap .i64 (psn s r + 2) = psn s (r.drop 2) := dP h hs (k := 2) h2
  have hd := Bv h (k := 2) h2
  rw [hw, aj (by rw [hd]; unfold psn; simp; omega), ah (by rw [hd]; unfold psn; simp; omega), take_at h h2]
  match r, h2 with
  | c :: d :: r1, _ =>
   have e : (List.take 2 (c :: d :: r1) == [a, b]) = [a, b].isPrefixOf (c :: d :: r1) := by
    rw [Bool.eq_iff_iff]; simp [List.isPrefixOf]
    exact ⟨fun ⟨h1, h2⟩ => ⟨h1.symm, h2.symm⟩, fun ⟨h1, h2⟩ => ⟨h1.symm, h2.symm⟩⟩
   rw [e]
   cases [a, b].isPrefixOf (c :: d :: r1) <;> rfl
 ·rw [aK (by unfold psn; omega) (by unfold psn; omega), au (by unfold psn; simp; omega)]
  have : [a, b].isPrefixOf r = false := by
   cases hp : [a, b].isPrefixOf r
   ·rfl
   ·have := dD hp
    simp only [List.length_cons, List.length_nil] at this
    omega
  rw [this]; rfl
theorem zbc (h : r <:+ s) (hs : s.length < 1000000) (hn : 10 <= n) : qx n (s, psn s r, [92, 125]) = some (ZC s (uw r)) := by
  unfold qx
  simp only
  rw [SF h hs hn]
  have hs1 : (gW r).2 <:+ s := (xL r).trans h
  unfold uw
  cases hlo : gW r with
  | mk lo r1 =>
    rw [hlo] at hs1
    simp only at hs1
    cases lo with
    | none => rfl
    | some lo =>
      rw [show Ol s (some lo, r1) = ((lo : Int), psn s r1) from rfl]
      simp only [aA]
      rw [aj (by unfold psn; simp), WC hs1 hs]
      have h1 : (bif [92, 125].isPrefixOf r1 then (br (decide ((lo : Int) > 255)) (some (0, 0, (-1))) (br (decide ((lo : Int) > 255)) (some (0, 0, (-1))) (br (decide ((lo : Int) ≥ 0)) (
                  br (decide ((lo : Int) < (lo : Int))) (
                    some (0, 0, (-1))) (
                    br ((lo : Int) == 0) (
                      some (0, 0, (-1))) (
                      some ((lo : Int), (lo : Int), IntKind.wrap .i64 (psn s r1 + (([92, 125] : List UInt8).length : Int)))))) (
                  br ((lo : Int) == 0) (
                    some (0, 0, (-1))) (
                    some ((lo : Int), (lo : Int), IntKind.wrap .i64 (psn s r1 + (([92, 125] : List UInt8).length : Int)))))))) else some (0, 0, (-1))) = some (ZC s (bif [92, 125].isPrefixOf r1 && decide (lo <= 255) && decide (1 <= lo) then some ((lo : Int), (lo : Int), r1.drop 2) else none)) := by
        cases hp : [92, 125].isPrefixOf r1
        · rfl
        simp only [cond_true, Bool.true_and]
        have hpl := dD hp
        by_cases h5 : lo <= 255
        · rw [aj (by simp; omega), aj (by simp; omega), au (by simp), aj (by simp), decide_eq_true h5, dP hs1 hs hpl]
          by_cases h6 : 1 <= lo
          · rw [aj (by simp; omega), decide_eq_true h6]; rfl
          · rw [au (by simp; omega), decide_eq_false h6]; rfl
        · rw [au (by simp; omega), decide_eq_false h5]; rfl
      rw [h1, pk1 hs1 44 (k := 44) rfl]
      cases hc : [44].isPrefixOf r1
      · rfl
      simp only [cond_true]
      have hpc := dD hc
      have hs2 : r1.drop 1 <:+ s := kM hs1 1
      have hw1 : IntKind.wrap .i64 (psn s r1 + 1) = psn s (r1.drop 1) := dP hs1 hs (k := 1) hpc
      rw [hw1, SF hs2 hs hn]
      have hs3 : (gW (r1.drop 1)).2 <:+ s := (xL _).trans hs2
      cases hhi : gW (r1.drop 1) with
      | mk hi r2 =>
        rw [hhi] at hs3
        simp only at hs3
        cases hi with
        | none =>
          have he2 : r2 = r1.drop 1 := by
            have : (gW (r1.drop 1)).1 = none := by rw [hhi]
            simp only [gW] at this hhi
            cases hz : dO 3 (r1.drop 1) == 0
            · rw [hz] at this; simp at this
            · have hz : dO 3 (r1.drop 1) = 0 := by simpa using hz
              simp only [hz, List.drop_zero, Prod.mk.injEq] at hhi
              exact hhi.2.symm
          subst he2
          rw [show ∀ x, Ol s (none, x) = (0, -1) from fun _ => rfl]
          simp only [aA]
          rw [aj (by rfl), WC hs2 hs]
          cases hp : [92, 125].isPrefixOf (r1.drop 1)
          · rfl
          simp only [cond_true, Bool.true_and]
          have hpl := dD hp
          by_cases h5 : lo <= 255
          · rw [aj (by simp; omega), aj (by rfl), aj (by rfl), aj (by rfl), decide_eq_true h5, dP hs2 hs hpl]; rfl
          · rw [au (by simp; omega), decide_eq_false h5]; rfl
        | some hi =>
          rw [show Ol s (some hi, r2) = ((hi : Int), psn s r2) from rfl]
          simp only [aA]
          rw [au (by unfold psn; simp), WC hs3 hs]
          cases hp : [92, 125].isPrefixOf r2
          · rfl
          simp only [cond_true, Bool.true_and]
          have hpl := dD hp
          by_cases h5 : lo <= 255
          · rw [aj (by simp; omega), decide_eq_true h5]
            by_cases h6 : hi <= 255
            · rw [aj (by simp; omega), au (by simp), decide_eq_true h6]
              by_cases h7 : lo <= hi
              · rw [aj (by simp; omega), decide_eq_true h7]
                by_cases h8 : 1 <= hi
                · rw [aj (by simp; omega), decide_eq_true h8, dP hs3 hs hpl]; rfl
                · rw [au (by simp; omega), decide_eq_false h8]; rfl
              · rw [au (by simp; omega), decide_eq_false h7]; rfl
            · rw [au (by simp; omega), decide_eq_false h6]; rfl
          · rw [au (by simp; omega), decide_eq_false h5]; rfl
theorem WE {r : List UInt8} {lo hi : Int} {r2 : List UInt8} (h : uw r = some (lo, hi, r2)) : r2 <:+ r := by
 unfold uw at h
 have n1 := xL r
 cases hlo : gW r with
 | mk l1 r1 =>
  rw [hlo] at n1 h
  cases l1 with
  | none => simp at h
  | some l1 =>
   simp only at h n1
   cases hc : [44].isPrefixOf r1 <;> rw [hc] at h <;> simp only [cond_true, cond_false] at h
   ·cases hb : [92, 125].isPrefixOf r1 && decide (l1 <= 255) && decide (1 <= l1) <;> rw [hb] at h <;> simp at h
    rw [<- h.2.2]; exact (List.drop_suffix _ _).trans n1
   ·have n2 := xL (r1.drop 1)
    cases hhi : gW (r1.drop 1) with
    | mk h1 r3 =>
     rw [hhi] at n2 h
     simp only at n2
     have n3 : r3.drop 2 <:+ r := (List.drop_suffix _ _).trans (n2.trans ((List.drop_suffix _ _).trans n1))
     cases h1 with
     | none =>
      simp only at h
      cases hb : [92, 125].isPrefixOf r3 && decide (l1 <= 255) <;> rw [hb] at h <;> simp at h
      rw [<- h.2.2]; exact n3
     | some h1 =>
      simp only at h
      cases hb : [92, 125].isPrefixOf r3 && decide (l1 <= 255) && decide (h1 <= 255) && decide (l1 <= h1) && decide (1 <= h1) <;> rw [hb] at h <;> simp at h
      rw [<- h.2.2]; exact n3
theorem zbd {t : Pt} (h : r <:+ s) (hs : s.length < 1000000) (hn : 10 <= n) (hl : l.length + t.sz < 900000) :
  QOK s l (jV t r b en) (uh n (s, psn s r, l ++ t.enc l.length, (b : Int), en, 0, 0, ())) := by
 rw [SG]
 unfold uh
 simp only
 have hle := iP h
 rw [pk1 h 42 (k := 42) rfl, pk2 h hs]
 cases h1 : [42].isPrefixOf r
 case true =>
  simp only [cond_true]
  have hw : IntKind.wrap .i64 (psn s r + 1) = psn s (r.drop 1) := dP h hs (k := 1) (dD h1)
  rw [hw]
  exact zam (kM h 1) hs hl rfl
 simp only [cond_false]
 cases h2 : [92, 123].isPrefixOf r
 case false => simp only [cond_false, QOK]
 simp only [cond_true]
 have hw : IntKind.wrap .i64 (psn s r + 2) = psn s (r.drop 2) := dP h hs (k := 2) (dD h2)
 rw [hw, zbc (kM h 2) hs hn]
 cases ho : uw (r.drop 2) with
 | none => exact ⟨_, _, _, _, rfl⟩
 | some x =>
  obtain ⟨lo, hi, r2⟩ := x
  have h3 := (WE ho).trans (kM h 2)
  rw [show ZC s (some (lo, hi, r2)) = (lo, hi, psn s r2) from rfl]
  simp only [aA]
  rw [aj (by unfold psn; simp)]
  exact zam h3 hs hl rfl
end
end Go.Dec
