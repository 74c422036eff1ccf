/- Part of a proof over this seat: a library of my own, and what it says of this seat. No statement is proved here. -/
import Derived.Test.YthhbdkdofhhoeaaGreatDoorPartBM
namespace Go.Dec
abbrev Nd : Type := Int × List Int × Int × Int × Int × Int × Int × Unit
abbrev RdT : Type := List UInt8 × Int × Int × List Bool × List Nd × Unit
inductive Pt where
 | empty | bol | eol
 | bytes (p : Nat -> Bool)
 | cat (a b : Pt) | alt (a b : Pt)
 | times (a : Pt) (lo hi : Int)
 | group (a : Pt) (n : Nat)
 | ref (n : Nat)
def Pt.sz : Pt -> Nat
 | .cat a b => a.sz + b.sz + 1
 | .alt a b => a.sz + b.sz + 1
 | .times a _ _ => a.sz + 1
 | .group a _ => a.sz + 1
 | _ => 1
theorem Pt.dZ : ∀ t : Pt, 1 <= t.sz
 | .empty | .bol | .eol | .bytes _ | .ref _ => Nat.le_refl _
 | .cat _ _ | .alt _ _ | .times _ _ _ | .group _ _ => Nat.le_add_left _ _
def Pt.top (o : Nat) (t : Pt) : Int := ((o + t.sz : Nat) : Int) - 1
def Pt.enc (o : Nat) : Pt -> List Nd
 | .empty => [(0, [0, 0, 0, 0], 0, 0, 0, 0, 0, ())]
 | .bol => [(2, [0, 0, 0, 0], 0, 0, 0, 0, 0, ())]
 | .eol => [(3, [0, 0, 0, 0], 0, 0, 0, 0, 0, ())]
 | .bytes p => [(1, wd p, 0, 0, 0, 0, 0, ())]
 | .cat a b => a.enc o ++ b.enc (o + a.sz) ++ [(4, [0, 0, 0, 0], a.top o, b.top (o + a.sz), 0, 0, 0, ())]
 | .alt a b => a.enc o ++ b.enc (o + a.sz) ++ [(5, [0, 0, 0, 0], a.top o, b.top (o + a.sz), 0, 0, 0, ())]
 | .times a lo hi => a.enc o ++ [(6, [0, 0, 0, 0], a.top o, 0, lo, hi, 0, ())]
 | .group a n => a.enc o ++ [(7, [0, 0, 0, 0], a.top o, 0, 0, 0, (n : Int), ())]
 | .ref n => [(8, [0, 0, 0, 0], 0, 0, 0, 0, (n : Int), ())]
theorem Pt.dR : ∀ (t : Pt) (o : Nat), (t.enc o).length = t.sz
 | .empty, _ | .bol, _ | .eol, _ | .bytes _, _ | .ref _, _ => rfl
 | .cat a b, o => by simp [Pt.enc, Pt.sz, Pt.dR a, Pt.dR b]; omega
 | .alt a b, o => by simp [Pt.enc, Pt.sz, Pt.dR a, Pt.dR b]; omega
 | .times a _ _, o => by simp [Pt.enc, Pt.sz, Pt.dR a]
 | .group a _, o => by simp [Pt.enc, Pt.sz, Pt.dR a]
inductive Res (α : Type) where
 | ok (a : α) (r : List UInt8) (b : Nat) (en : List Bool)
 | er (e k : Nat)
def iZ (r : List UInt8) : Bool := r.isEmpty || [92, 41].isPrefixOf r
def qB : List UInt8 := [46, 91, 92, 42, 94, 36, 47]
def iB : Nat -> List UInt8 -> Nat
 | 0, _ => 0
 | _ + 1, [] => 0
 | m + 1, c :: r => bif isDigit c then iB m r + 1 else 0
def mZ (r : List UInt8) : Option Nat × List UInt8 :=
 let k := iB 3 r
 (bif k == 0 then none else some (zIf (r.take k)), r.drop k)
def xM (t : Pt) (lo hi : Int) (r : List UInt8) (b : Nat) (en : List Bool) : Res Pt :=
 bif [42].isPrefixOf r || [92, 123].isPrefixOf r then .er 43 r.length else .ok (.times t lo hi) r b en
def pI (t : Pt) (r : List UInt8) (b : Nat) (en : List Bool) : Res Pt :=
 bif [42].isPrefixOf r then xM t 0 (-1) (r.drop 1) b en
 else bif [92, 123].isPrefixOf r then
  match mZ (r.drop 2) with
  | (none, _) => .er 43 r.length
  | (some lo, r1) =>
   bif [44].isPrefixOf r1 then
    match mZ (r1.drop 1) with
    | (none, r2) => bif [92, 125].isPrefixOf r2 && decide (lo <= 255) then xM t lo (-1) (r2.drop 2) b en else .er 43 r.length
    | (some hi, r2) => bif [92, 125].isPrefixOf r2 && decide (lo <= 255) && decide (hi <= 255) && decide (lo <= hi) && decide (1 <= hi) then xM t lo hi (r2.drop 2) b en else .er 43 r.length
   else bif [92, 125].isPrefixOf r1 && decide (lo <= 255) && decide (1 <= lo) then xM t lo lo (r1.drop 2) b en else .er 43 r.length
 else .ok t r b en
def gV (c : UInt8) : Nat -> Bool := fun i => decide (i = c.toNat)
def mP (fA : List UInt8 -> Nat -> List Bool -> Res (Option Pt)) (first : Bool) (r : List UInt8) (b : Nat) (en : List Bool) : Res Pt :=
 match r with
 | [] => .er 40 0
 | c :: r1 =>
  bif c == 46 then .ok (.bytes fun _ => true) r1 b en
  else bif c == 91 then
   match Ck r with
   | none => .er 42 r.length
   | some (p, k) => .ok (.bytes p) (r.drop k) b en
  else bif c == 92 then
   match r1 with
   | [] => .er 40 r.length
   | d :: r2 =>
    bif d == 40 then
     bif b == 9 then .er 41 r.length
     else match fA r2 (b + 1) en with
      | .er e k => .er e k
      | .ok none _ _ _ => .er 41 r.length
      | .ok (some t) r3 b3 en3 => bif [92, 41].isPrefixOf r3 then .ok (.group t (b + 1)) (r3.drop 2) b3 (en3.set (b + 1) true) else .er 41 r.length
    else bif decide (49 <= d.toNat) && decide (d.toNat <= 57) then
     bif en.getD (d.toNat - 48) false then .ok (.ref (d.toNat - 48)) r2 b en else .er 44 r.length
    else bif d == 110 then .ok (.bytes (gV 10)) r2 b en
    else bif qB.contains d then .ok (.bytes (gV d)) r2 b en
    else bif d == 123 && first then .er 43 r.length
    else .er 40 r.length
  else .ok (.bytes (gV c)) r1 b en
def gW (fA : List UInt8 -> Nat -> List Bool -> Res (Option Pt)) : Nat -> Bool -> List UInt8 -> Nat -> List Bool -> List Pt -> Res (List Pt)
 | 0, _, _, _, _, _ => .er 0 0
 | f + 1, first, r, b, en, acc =>
  bif iZ r then .ok acc r b en
  else bif [36].isPrefixOf r && iZ (r.drop 1) then .ok (acc ++ [.eol]) (r.drop 1) b en
  else match mP fA first r b en with
   | .er e k => .er e k
   | .ok t r1 b1 en1 => match pI t r1 b1 en1 with
    | .er e k => .er e k
    | .ok t2 r2 b2 en2 => gW fA f false r2 b2 en2 (acc ++ [t2])
def kJ : List Pt -> Option Pt
 | [] => none
 | t :: ts => match kJ ts with
  | none => some t
  | some u => some (.cat t u)
def fA : Nat -> List UInt8 -> Nat -> List Bool -> Res (Option Pt)
 | 0, _, _, _ => .er 0 0
 | f + 1, r, b, en =>
  let bol := [94].isPrefixOf r
  let r1 := bif bol then r.drop 1 else r
  match gW (fA f) (r1.length + 1) true r1 b en (bif bol then [.bol] else []) with
  | .er e k => .er e k
  | .ok ts r2 b2 en2 => .ok (kJ ts) r2 b2 en2
def mF : List Bool := [false, false, false, false, false, false, false, false, false, false]
def Cm (s : List UInt8) : Sum Pt (Nat × Nat) :=
 match s with
 | [] => .inl .empty
 | _ => match fA 11 s 0 mF with
  | .er e k => .inr (e, s.length - k)
  | .ok t r _ _ =>
   match r with
   | [] => match t with
    | none => .inr (41, s.length)
    | some t => bif decide (t.sz > 120) then .inr (2, 0) else .inl t
   | _ => .inr (41, s.length - r.length)
def psn (s r : List UInt8) : Int := ((s.length - r.length : Nat) : Int)
theorem Cn {r s : List UInt8} (h : r <:+ s) : s.drop (s.length - r.length) = r := (List.suffix_iff_eq_drop.1 h).symm
theorem wM {r s : List UInt8} (h : r <:+ s) : r.length <= s.length := h.length_le
theorem uD {r s : List UInt8} (h : r <:+ s) (k : Nat) : r.drop k <:+ s := (List.drop_suffix k r).trans h
theorem zDn {r s : List UInt8} (h : r <:+ s) {k : Nat} (hk : k <= r.length) : psn s (r.drop k) = psn s r + k := by
 have := wM h
 unfold psn
 rw [List.length_drop]; omega
theorem rM {r s : List UInt8} (h : r <:+ s) (hs : s.length < 1000000) {k : Nat} (hk : k <= r.length) : IntKind.wrap .i64 (psn s r + (k : Int)) = psn s (r.drop k) := by
 have := wM h
 rw [zDn h hk, bG (by unfold psn; omega) (by unfold psn; omega)]
theorem zLf {r s : List UInt8} (h : r <:+ s) : (decide (0 <= psn s r) && decide (psn s r <= (s.length : Int))) = true := by
 unfold psn; simp
theorem Av (r s : List UInt8) : (psn s r).toNat = s.length - r.length := Int.toNat_natCast _
theorem zGn {r s : List UInt8} (h : r <:+ s) {j : Nat} {c d : UInt8} (hj : r[j]? = some c) : aQ d s (psn s r + (j : Int)) = c := by
 unfold psn
 rw [show ((s.length - r.length : Nat) : Int) + (j : Int) = ((s.length - r.length + j : Nat) : Int) by omega]
 exact Ak (by rw [Cn h]; exact hj)
theorem Xt {r s : List UInt8} (h : r <:+ s) : (psn s r == (s.length : Int)) = r.isEmpty := by
 have := wM h
 rw [Bool.eq_iff_iff, beq_iff_eq, List.isEmpty_iff_length_eq_zero]; unfold psn; omega
section
variable {n : Nat} {s r t : List UInt8} {b : Int} {en : List Bool} {l : List Nd}
theorem qC (h : r <:+ s) : aR n (t, s, psn s r, b, en, l, ()) = some (t.isPrefixOf r, s, psn s r, b, en, l, ()) := by
 unfold aR
 simp only
 rw [aC (zLf h), Cj, Av, Cn h]; rfl
theorem nU (h : r <:+ s) (hs : s.length < 1000000) (ht : t.isPrefixOf r = true) : bN n (t, s, psn s r, b, en, l, ()) = some (true, s, psn s (r.drop t.length), b, en, l, ()) := by
 unfold bN
 simp only
 rw [qC h]
 simp only [aI, ht, Bool.not_true, bC]
 rw [rM h hs (gI ht)]
theorem nV (h : r <:+ s) (ht : t.isPrefixOf r = false) : bN n (t, s, psn s r, b, en, l, ()) = some (false, s, psn s r, b, en, l, ()) := by
 unfold bN
 simp only
 rw [qC h]
 simp only [aI, ht, Bool.not_false, bX]
theorem Cq {at' k a c mi ma nn : Int} {w : List Int} (hl : l.length < 1000000) : bH n (k, w, a, c, mi, ma, nn, s, at', b, en, l, ()) = some (((l.length : Nat) : Int), s, at', b, en, l ++ [(k, w, a, c, mi, ma, nn, ())], ()) := by
 unfold bH
 simp only
 rw [aC (by simp [room]; omega)]
 simp only [List.length_append, List.length_cons, List.length_nil]
 rw [bG (by omega) (by omega)]
 congr 2; omega
theorem zLg (h : r <:+ s) : kP n (s, psn s r, b, en, l, ()) = some (iZ r, s, psn s r, b, en, l, ()) := by
 unfold kP
 simp only
 rw [Xt h, qC h]
 unfold iZ
 cases r.isEmpty <;> rfl
theorem zNs {p : Nat -> Bool} {at' : Int} (hl : l.length < 1000000) : bU n (wd p, s, at', b, en, l, ()) = some (((l.length : Nat) : Int), s, at', b, en, l ++ (Pt.bytes p).enc l.length, ()) := by
 unfold bU
 simp only
 rw [Cq hl]; rfl
theorem eB {x : Int × Int × RdT} : aF n x = some (.inr x) := rfl
theorem zGo : ∀ (m : Nat) (r : List UInt8), iB m r <= m ∧ iB m r <= r.length
 | 0, _ => by simp [iB]
 | m + 1, [] => by simp [iB]
 | m + 1, c :: r => by
  have := zGo m r
  unfold iB
  cases isDigit c <;> simp <;> omega
theorem zDo : ∀ (m : Nat) (r : List UInt8), (r.take (iB m r)).all isDigit = true
 | 0, _ => by simp [iB]
 | m + 1, [] => by simp [iB]
 | m + 1, c :: r => by
  have := zDo m r
  unfold iB
  cases h : isDigit c
  ·simp
  ·simp [h, this]
def Ij : Option Nat -> Int
 | none => -1
 | some k => (k : Int)
theorem uT (h : r <:+ s) (hs : s.length < 1000000) :
  (chk ((decide (0 <= psn s (r.drop (iB 3 r))) && decide (psn s (r.drop (iB 3 r)) <= (s.length : Int)) && (decide (0 <= psn s r) && decide (psn s r <= psn s (r.drop (iB 3 r)))))) (
   ob (strconv_Atoi n ((s.take (psn s (r.drop (iB 3 r))).toNat).drop (psn s r).toNat)) fun y24 =>
   br (!(!y24.2)) (
    some ((-1), s, psn s (r.drop (iB 3 r)), b, en, l, ())) (
    some (y24.1, s, psn s (r.drop (iB 3 r)), b, en, l, ())))) = some (Ij (mZ r).1, s, psn s (mZ r).2, b, en, l, ()) := by
 have hk := zGo 3 r
 have hl := wM h
 rw [aC (by rw [zDn h hk.2]; unfold psn; simp; omega)]
 have e : (s.take (psn s (r.drop (iB 3 r))).toNat).drop (psn s r).toNat = r.take (iB 3 r) := by
  rw [Av, Av, List.drop_take, Cn h, List.length_drop]
  congr 1; omega
 rw [e]
 have hall := zDo 3 r
 simp only [mZ]
 cases hd : iB 3 r with
 | zero => simp [strconv_Atoi, Ij]; rfl
 | succ k =>
  cases r with
  | nil => rw [hd] at hk; simp at hk
  | cons c r =>
   rw [hd] at hall hk
   unfold strconv_Atoi
   rw [aC (by
    rw [Bool.and_eq_true]
    refine ⟨?_, hall⟩
    rw [Nat.ble_eq, List.length_take]; omega)]
   simp [Ij]
theorem Zb (h : r <:+ s) (hs : s.length < 1000000) (hn : 10 <= n) : iW n (s, psn s r, b, en, l, ()) = some (Ij (mZ r).1, s, psn s (mZ r).2, b, en, l, ()) := by
 unfold iW
 simp only
 have hl := wM h
 have key : ∀ (j m : Nat) (r' : List UInt8), r' = r.drop j -> j + iB (3 - j) r' = iB 3 r -> j <= 3 -> j <= r.length -> 4 - j <= m -> fix (jH n) m (psn s r', s, psn s r, b, en, l, ()) = some (Ij (mZ r).1, s, psn s (mZ r).2, b, en, l, ()) := by
  intro j
  induction hm : 3 - j generalizing j with
  | zero =>
   intro m r' hr' hd hj hjl hmm
   have hj3 : j = 3 := by omega
   rw [dM (by omega), jH]
   simp only
   have e : iB 3 r = j := by rw [<- hd]; simp [iB]
   have er : r' = r.drop (iB 3 r) := by rw [e]; exact hr'
   have hlim : decide (psn s r' < IntKind.wrap .i64 (psn s r + 3)) = false := by
    rw [hr', show (3 : Int) = ((3 : Nat) : Int) from rfl, rM h hs (by omega), hj3]; simp
   rw [er] at hlim ⊢
   rw [hlim]
   by_cases hlt : psn s (r.drop (iB 3 r)) < (s.length : Int)
   ·rw [aD (decide_eq_true hlt), bC]
    exact uT h hs
   ·rw [aA (decide_eq_false hlt)]
    exact uT h hs
  | succ q ih =>
   intro m r' hr' hd hj hjl hmm
   have zNt : r' <:+ s := by rw [hr']; exact uD h j
   rw [dM (by omega), jH]
   simp only
   have hlim : decide (psn s r' < IntKind.wrap .i64 (psn s r + 3)) = true := by
    rw [hr', zDn h hjl, bG (by unfold psn; omega) (by unfold psn; omega)]; simp; omega
   cases hc : r' with
   | nil =>
    rw [hc] at hd
    have e : iB 3 r = j := by rw [<- hd]; rfl
    have er : r' = r.drop (iB 3 r) := by rw [e]; exact hr'
    rw [<- hc, aA (by unfold psn; rw [hc]; simp), er]
    exact uT h hs
   | cons c r2 =>
    rw [<- hc]
    rw [hc] at hd
    have hlr : r'.length = r2.length + 1 := by rw [hc]; rfl
    have hle := wM zNt
    have hg : aQ 0 s (psn s r') = c := by
     have := zGn (d := 0) zNt (j := 0) (c := c) (by rw [hc]; rfl)
     simpa using this
    have hib : inB (psn s r') s.length = true := fF (by unfold psn; omega) (by unfold psn; omega)
    rw [aD (by unfold psn; simp; omega), aD hlim, aC hib, aC hib, hg]
    have hdd : iB (q + 1) (c :: r2) = bif isDigit c then iB q r2 + 1 else 0 := rfl
    rw [hdd] at hd
    cases hdg : isDigit c
    ·rw [hdg] at hd
     simp only [cond_false, Nat.add_zero] at hd
     have er : r' = r.drop (iB 3 r) := by rw [<- hd]; exact hr'
     unfold isDigit at hdg
     have hfin := uT (n := n) (b := b) (en := en) (l := l) h hs
     rw [<- er] at hfin
     by_cases h48 : 48 <= c.toNat
     ·rw [aD (by simp; omega)]
      have h57 : ¬ c.toNat <= 57 := by
       intro h57; simp [h48, h57] at hdg
      rw [aA (by simp; omega)]
      exact hfin
     ·rw [aA (by simp; omega)]
      exact hfin
    ·rw [hdg] at hd
     simp only [cond_true] at hd
     unfold isDigit at hdg
     simp only [Bool.and_eq_true, decide_eq_true_eq] at hdg
     rw [aD (by simp; omega), aD (by simp; omega)]
     have hr2 : r2 = r.drop (j + 1) := by rw [<- List.drop_drop, <- hr', hc]; rfl
     have hp : IntKind.wrap .i64 (psn s r' + 1) = psn s r2 := by
      have := rM zNt hs (k := 1) (by omega)
      rw [hc] at this ⊢
      exact this
     rw [hp]
     exact ih (j + 1) (by omega) (m - 1) r2 hr2 (by rw [<- hd]; omega) (by omega) (by rw [hr', List.length_drop] at hlr; omega) (by omega)
 have := key 0 n r (by simp) (by simp) (by omega) (by omega) (by omega)
 exact this
end
end Go.Dec
namespace Go.Dec
def POK (s : List UInt8) (l : List Nd) (o : Res Pt) (e : Option (Sum (Int × RdT) (Int × Int × RdT))) : Prop := match o with
 | .ok t r b en => e = some (.inl (t.top l.length, s, psn s r, (b : Int), en, l ++ t.enc l.length, ()))
 | .er c k => ∃ x : RdT, e = some (.inr ((c : Int), ((s.length - k : Nat) : Int), x))
section
variable {n : Nat} {s r : List UInt8} {b : Nat} {en : List Bool} {l : List Nd}
theorem zJf (k : Nat) : ((k : Int) == (-1)) = false := by rw [Bool.eq_false_iff, ne_eq, beq_iff_eq]; omega
theorem zPf (k : Nat) : ((k : Int) != (-1)) = true := by rw [bne, zJf]; rfl
theorem Vm {t : Pt} {lo hi : Int} (h : r <:+ s) (hl : l.length + t.sz < 900000) : POK s l (xM t lo hi r b en) (
  ob (bH n (6, [0, 0, 0, 0], t.top l.length, 0, lo, hi, 0, s, psn s r, (b : Int), en, l ++ t.enc l.length, ())) fun y8 =>
  ob (aR n ([42], y8.2.1, y8.2.2.1, y8.2.2.2.1, y8.2.2.2.2.1, y8.2.2.2.2.2.1, ())) fun y9 =>
  br y9.1 (
   ob2 (aF n (43, y9.2.2.1, y9.2.1, y9.2.2.1, y9.2.2.2.1, y9.2.2.2.2.1, y9.2.2.2.2.2.1, ())) (fun y10 =>
    none) (fun y10 =>
    some (.inr (y10.1, y10.2.1, y10.2.2.1, y10.2.2.2.1, y10.2.2.2.2.1, y10.2.2.2.2.2.1, y10.2.2.2.2.2.2.1, ())))) (
   ob (aR n ([92, 123], y9.2.1, y9.2.2.1, y9.2.2.2.1, y9.2.2.2.2.1, y9.2.2.2.2.2.1, ())) fun y11 =>
   br y11.1 (
    ob2 (aF n (43, y11.2.2.1, y11.2.1, y11.2.2.1, y11.2.2.2.1, y11.2.2.2.2.1, y11.2.2.2.2.2.1, ())) (fun y12 =>
     none) (fun y12 =>
     some (.inr (y12.1, y12.2.1, y12.2.2.1, y12.2.2.2.1, y12.2.2.2.2.1, y12.2.2.2.2.2.1, y12.2.2.2.2.2.2.1, ())))) (
    some (.inl (y8.1, y11.2.1, y11.2.2.1, y11.2.2.2.1, y11.2.2.2.2.1, y11.2.2.2.2.2.1, ()))))) := by
 rw [Cq (by rw [List.length_append, Pt.dR]; omega)]
 simp only [aI]
 rw [qC h]
 simp only [aI]
 unfold xM
 cases [42].isPrefixOf r
 ·simp only [bC, Bool.false_or]
  rw [qC h]
  simp only [aI]
  cases [92, 123].isPrefixOf r
  ·simp only [bC, cond_false, POK, Pt.enc, Pt.top, Pt.sz, List.length_append, Pt.dR, List.append_assoc]
   congr 3; omega
  ·simp only [bX, cond_true, eB, iF]
   exact ⟨_, rfl⟩
 ·simp only [bX, Bool.true_or, cond_true, eB, iF]
  exact ⟨_, rfl⟩
theorem zNu {t : Pt} (h : r <:+ s) (hs : s.length < 1000000) (hn : 10 <= n) (hl : l.length + t.sz < 900000) :
  POK s l (pI t r b en) (lX n (t.top l.length, s, psn s r, (b : Int), en, l ++ t.enc l.length, ())) := by
 unfold lX pI
 simp only
 cases h1 : [42].isPrefixOf r
 case true =>
  rw [nU h hs h1]
  simp only [aI, bX, cond_true]
  exact Vm (uD h 1) hl
 rw [nV h h1]
 simp only [aI, bC, cond_false]
 cases h2 : [92, 123].isPrefixOf r
 case false =>
  rw [nV h h2]
  simp only [aI, Bool.not_false, bX, cond_false, POK]
 rw [nU h hs h2]
 simp only [aI, Bool.not_true, bC, cond_true]
 have hg : ∀ {x : RdT}, POK s l (.er 43 r.length) (some (.inr (43, psn s r, x))) := fun {x} => ⟨x, rfl⟩
 have s2 : r.drop 2 <:+ s := uD h 2
 rw [show ([92, 123] : List UInt8).length = 2 from rfl, Zb s2 hs hn]
 have n2 : (mZ (r.drop 2)).2 <:+ s := uD s2 _
 cases hlo : mZ (r.drop 2) with
 | mk lo r1 =>
  rw [hlo] at n2
  simp only [aI] at n2 ⊢
  cases h3 : [44].isPrefixOf r1
  ·rw [nV n2 h3]
   simp only [aI, bC]
   cases lo with
   | none =>
    simp only [Ij]
    rw [aD (by rfl), eB]
    exact hg
   | some lo =>
    simp only [Ij, h3, cond_false]
    rw [aA (zJf lo)]
    cases h4 : [92, 125].isPrefixOf r1
    ·rw [nV n2 h4]
     simp only [aI, Bool.not_false, bX, eB, iF, Bool.false_and, cond_false]
     exact hg
    rw [nU n2 hs h4]
    simp only [aI, Bool.not_true, bC, Bool.true_and]
    by_cases h5 : lo <= 255
    ·rw [aA (by simp; omega), aA (by simp; omega), aD (zPf lo), decide_eq_true h5]
     by_cases h6 : 1 <= lo
     ·rw [aA (by simp; split <;> omega), decide_eq_true h6]
      exact Vm (uD n2 2) hl
     ·rw [aD (by simp; omega), decide_eq_false h6, eB]
      exact hg
    ·rw [aD (by simp; omega), decide_eq_false h5, eB]
     exact hg
  ·rw [nU n2 hs h3]
   simp only [aI, bX]
   have s3 : r1.drop 1 <:+ s := uD n2 1
   rw [show ([44] : List UInt8).length = 1 from rfl, Zb s3 hs hn]
   have n3 : (mZ (r1.drop 1)).2 <:+ s := uD s3 _
   cases hhi : mZ (r1.drop 1) with
   | mk hi r2 =>
    rw [hhi] at n3
    simp only [aI] at n3 ⊢
    cases lo with
    | none =>
     simp only [Ij]
     rw [aD (by rfl), eB]
     exact hg
    | some lo =>
     simp only [Ij, h3, cond_true]
     rw [aA (zJf lo)]
     cases hi with
     | none =>
      simp only [hhi]
      cases h4 : [92, 125].isPrefixOf r2
      ·rw [nV n3 h4]
       simp only [aI, Bool.not_false, bX, eB, iF, Bool.false_and, cond_false]
       exact hg
      rw [nU n3 hs h4]
      simp only [aI, Bool.not_true, bC, Bool.true_and]
      by_cases h5 : lo <= 255
      ·rw [aA (by simp; omega), decide_eq_true h5, aA (by rfl), aA (by rfl)]
       exact Vm (uD n3 2) hl
      ·rw [aD (by simp; omega), decide_eq_false h5, eB]
       exact hg
     | some hi =>
      simp only [hhi]
      cases h4 : [92, 125].isPrefixOf r2
      ·rw [nV n3 h4]
       simp only [aI, Bool.not_false, bX, eB, iF, Bool.false_and, cond_false]
       exact hg
      rw [nU n3 hs h4]
      simp only [aI, Bool.not_true, bC, Bool.true_and]
      by_cases h5 : lo <= 255
      ·rw [aA (by simp; omega), decide_eq_true h5]
       by_cases h6 : hi <= 255
       ·rw [aA (by simp; omega), aD (zPf hi), decide_eq_true h6]
        by_cases h7 : lo <= hi
        ·by_cases h8 : 1 <= hi
         ·rw [aA (by simp; split <;> omega), decide_eq_true h7, decide_eq_true h8]
          exact Vm (uD n3 2) hl
         ·rw [aD (by simp; split <;> omega), decide_eq_false h8, decide_eq_true h7, eB]
          exact hg
        ·rw [aD (by simp; split <;> omega), decide_eq_false h7, eB]
         exact hg
       ·rw [aD (by simp; omega), decide_eq_false h6, eB]
        exact hg
      ·rw [aD (by simp; omega), decide_eq_false h5, eB]
       exact hg
end
end Go.Dec
namespace Go.Dec
def zJg (e : Nat) : Prop := 40 <= e ∧ e <= 44
def Dq (t : Pt) (r : List UInt8) (b : Nat) (en : List Bool) : Res Pt -> Prop
 | .ok t' r' b' en' => r' <:+ r ∧ b' = b ∧ en' = en ∧ t'.sz + 3 * r'.length <= t.sz + 3 * r.length
 | .er e _ => zJg e
theorem zDp {t : Pt} {lo hi : Int} {r0 r : List UInt8} {b : Nat} {en : List Bool} (h : r <:+ r0) (h2 : r.length < r0.length) : Dq t r0 b en (xM t lo hi r b en) := by
 unfold xM
 cases [42].isPrefixOf r || [92, 123].isPrefixOf r
 ·exact ⟨h, rfl, rfl, by simp only [Pt.sz]; omega⟩
 ·exact ⟨by omega, by omega⟩
theorem zDq (r : List UInt8) : (mZ r).2 <:+ r := List.drop_suffix _ _
theorem Vn (t : Pt) (r : List UInt8) (b : Nat) (en : List Bool) : Dq t r b en (pI t r b en) := by
 have hg : ∀ k, Dq t r b en (.er 43 k) := fun k => ⟨by omega, by omega⟩
 unfold pI
 cases h1 : [42].isPrefixOf r
 case true =>
  have := gI h1
  simp only [List.length_cons, List.length_nil] at this
  exact zDp (List.drop_suffix _ _) (by rw [List.length_drop]; omega)
 simp only [cond_false]
 cases h2 : [92, 123].isPrefixOf r
 case false => exact ⟨List.suffix_refl _, rfl, rfl, Nat.le_refl _⟩
 simp only [cond_true]
 have hp := gI h2
 simp only [List.length_cons, List.length_nil] at hp
 have n2 := zDq (r.drop 2)
 cases hlo : mZ (r.drop 2) with
 | mk lo r1 =>
  rw [hlo] at n2
  simp only at n2
  have l2 := n2.length_le
  rw [List.length_drop] at l2
  have hf : ∀ {lo hi : Int} {x : List UInt8}, x <:+ r1 -> Dq t r b en (xM t lo hi (x.drop 2) b en) := by
   intro lo hi x hx
   have l3 := hx.length_le
   exact zDp ((List.drop_suffix _ _).trans (hx.trans (n2.trans (List.drop_suffix _ _)))) (by rw [List.length_drop]; omega)
  cases lo with
  | none => exact hg _
  | some lo =>
   simp only
   cases [44].isPrefixOf r1
   ·simp only [cond_false]
    cases [92, 125].isPrefixOf r1 && decide (lo <= 255) && decide (1 <= lo)
    ·exact hg _
    ·exact hf (List.suffix_refl _)
   ·simp only [cond_true]
    have n3 := (zDq (r1.drop 1)).trans (List.drop_suffix 1 r1)
    cases hhi : mZ (r1.drop 1) with
    | mk hi r2 =>
     rw [hhi] at n3
     cases hi with
     | none =>
      simp only
      cases [92, 125].isPrefixOf r2 && decide (lo <= 255)
      ·exact hg _
      ·exact hf n3
     | some hi =>
      simp only
      cases [92, 125].isPrefixOf r2 && decide (lo <= 255) && decide (hi <= 255) && decide (lo <= hi) && decide (1 <= hi)
      ·exact hg _
      ·exact hf n3
def Ik (r : List UInt8) : Res Pt -> Prop
 | .ok t r' b' en' => r' <:+ r ∧ t.sz + 2 + 3 * r'.length <= 3 * r.length ∧ b' <= 9 ∧ en'.length = 10
 | .er e _ => zJg e
def Gi (r : List UInt8) : Res (Option Pt) -> Prop
 | .ok t r' b' en' => r' <:+ r ∧ (match t with | none => 0 | some t => t.sz + 1) + 3 * r'.length <= 3 * r.length ∧ b' <= 9 ∧ en'.length = 10
 | .er e _ => zJg e
theorem Zc {row : List UInt8 -> Nat -> List Bool -> Res (Option Pt)} {first : Bool} {r : List UInt8} {b : Nat} {en : List Bool} (hb : b <= 9) (he : en.length = 10)
  (hrow : ∀ r, b + 1 <= 9 -> Gi r (row r (b + 1) en)) : Ik r (mP row first r b en) := by
 have hg : ∀ e k, 40 <= e -> e <= 44 -> Ik r (.er e k) := fun e k h1 h2 => ⟨h1, h2⟩
 unfold mP
 cases r with
 | nil => exact hg _ _ (by omega) (by omega)
 | cons c r1 =>
  have hone : ∀ p, Ik (c :: r1) (.ok (.bytes p) r1 b en) := fun p => ⟨List.suffix_cons _ _, by simp only [Pt.sz, List.length_cons]; omega, hb, he⟩
  simp only
  cases c == 46
  case true => exact hone _
  simp only [cond_false]
  cases c == 91
  case true =>
   simp only [cond_true]
   cases hk : Ck (c :: r1) with
   | none => exact hg _ _ (by omega) (by omega)
   | some x =>
    obtain ⟨p, k⟩ := x
    have := zDm hk
    exact ⟨List.drop_suffix _ _, by simp only [Pt.sz, List.length_drop]; omega, hb, he⟩
  simp only [cond_false]
  cases c == 92
  case false => exact hone _
  simp only [cond_true]
  cases r1 with
  | nil => exact hg _ _ (by omega) (by omega)
  | cons d r2 =>
   have zNv : ∀ t : Pt, t.sz = 1 -> Ik (c :: d :: r2) (.ok t r2 b en) := fun t ht => ⟨(List.suffix_cons _ _).trans (List.suffix_cons _ _), by simp only [ht, List.length_cons]; omega, hb, he⟩
   simp only
   cases d == 40
   case true =>
    simp only [cond_true]
    cases hb9 : b == 9
    case true => exact hg _ _ (by omega) (by omega)
    have hb9 : b ≠ 9 := by simpa using hb9
    simp only [cond_false]
    have hr := hrow r2 (by omega)
    cases ho : row r2 (b + 1) en with
    | er e k => rw [ho] at hr; exact hr
    | ok t r3 b3 en3 =>
     rw [ho] at hr
     obtain ⟨h1, h2, h3, h4⟩ := hr
     cases t with
     | none => exact hg _ _ (by omega) (by omega)
     | some t =>
      simp only
      cases hp : [92, 41].isPrefixOf r3
      ·exact hg _ _ (by omega) (by omega)
      ·have hl := gI hp
       simp only [List.length_cons, List.length_nil] at hl
       refine ⟨(List.drop_suffix _ _).trans (h1.trans ((List.suffix_cons _ _).trans (List.suffix_cons _ _))), ?_, h3, ?_⟩
       ·simp only [Pt.sz, List.length_drop, List.length_cons]
        simp only at h2
        omega
       ·rw [List.length_set]; exact h4
   simp only [cond_false]
   cases decide (49 <= d.toNat) && decide (d.toNat <= 57)
   case true =>
    simp only [cond_true]
    cases en.getD (d.toNat - 48) false
    ·exact hg _ _ (by omega) (by omega)
    ·exact zNv _ rfl
   simp only [cond_false]
   cases d == 110
   case true => exact zNv _ rfl
   simp only [cond_false]
   cases qB.contains d
   case true => exact zNv _ rfl
   simp only [cond_false]
   cases d == 123 && first
   ·exact hg _ _ (by omega) (by omega)
   ·exact hg _ _ (by omega) (by omega)
theorem Zd {row : List UInt8 -> Nat -> List Bool -> Res (Option Pt)} {f0 : Nat} {first : Bool} {r : List UInt8} {b : Nat} {en : List Bool} {t : Pt} {r' : List UInt8} {b' : Nat} {en' : List Bool}
  (hrow : ∀ r b en, en.length = 10 -> b + 1 <= 9 -> 11 <= f0 + (b + 1) -> ∀ t r' b' en', row r (b + 1) en = .ok t r' b' en' -> b + 1 <= b') (he : en.length = 10) (hb : b <= 9) (hf0 : 10 <= f0 + b)
  (h : mP row first r b en = .ok t r' b' en') : b <= b' := by
 unfold mP at h
 cases r with
 | nil => simp at h
 | cons c r1 =>
  simp only at h
  cases h1 : c == 46 <;> rw [h1] at h <;> simp only [cond_true, cond_false, Res.ok.injEq] at h
  case true => omega
  cases h2 : c == 91 <;> rw [h2] at h <;> simp only [cond_true, cond_false] at h
  case true =>
   cases h3 : Ck (c :: r1) with
   | none => rw [h3] at h; simp at h
   | some x => rw [h3] at h; simp only [Res.ok.injEq] at h; omega
  cases h3 : c == 92 <;> rw [h3] at h <;> simp only [cond_true, cond_false, Res.ok.injEq] at h
  case false => omega
  cases r1 with
  | nil => simp at h
  | cons d r2 =>
   simp only at h
   cases h4 : d == 40 <;> rw [h4] at h <;> simp only [cond_true, cond_false] at h
   case true =>
    cases h5 : b == 9 <;> rw [h5] at h <;> simp only [cond_true, cond_false] at h
    case true => simp at h
    have hb9 : b ≠ 9 := by simpa using h5
    have hr := hrow r2 b en he (by omega) (by omega)
    cases ho : row r2 (b + 1) en with
    | er e k => rw [ho] at h; simp at h
    | ok t r3 b3 en3 =>
     have := hr _ _ _ _ ho
     rw [ho] at h
     cases t with
     | none => simp at h
     | some t =>
      simp only at h
      cases h6 : [92, 41].isPrefixOf r3 <;> rw [h6] at h <;> simp only [cond_true, cond_false, Res.ok.injEq] at h
      ·simp at h
      ·omega
   cases h5 : decide (49 <= d.toNat) && decide (d.toNat <= 57) <;> rw [h5] at h <;> simp only [cond_true, cond_false] at h
   case true =>
    cases h6 : en.getD (d.toNat - 48) false <;> rw [h6] at h <;> simp only [cond_true, cond_false, Res.ok.injEq] at h
    ·simp at h
    ·omega
   cases h6 : d == 110 <;> rw [h6] at h <;> simp only [cond_true, cond_false, Res.ok.injEq] at h
   case true => omega
   cases h7 : qB.contains d <;> rw [h7] at h <;> simp only [cond_true, cond_false, Res.ok.injEq] at h
   case true => omega
   cases h8 : d == 123 && first <;> rw [h8] at h <;> simp at h
def szL : List Pt -> Nat
 | [] => 0
 | t :: ts => t.sz + 1 + szL ts
theorem xO : ∀ (a b : List Pt), szL (a ++ b) = szL a + szL b
 | [], b => by simp [szL]
 | t :: a, b => by simp [szL, xO a b]; omega
theorem zGp : ∀ (ts : List Pt), (match kJ ts with | none => 0 | some t => t.sz + 1) = szL ts
 | [] => rfl
 | t :: ts => by
  have := zGp ts
  unfold kJ szL
  cases h : kJ ts with
  | none => rw [h] at this; simp only at this ⊢; omega
  | some u => rw [h] at this; simp only [Pt.sz] at this ⊢; omega
def zLh (r : List UInt8) (acc : List Pt) : Res (List Pt) -> Prop
 | .ok ts r' b' en' => r' <:+ r ∧ szL ts + 3 * r'.length <= szL acc + 3 * r.length ∧ b' <= 9 ∧ en'.length = 10
 | .er e _ => zJg e
theorem Vo {row : List UInt8 -> Nat -> List Bool -> Res (Option Pt)} {f0 : Nat} (hrow : ∀ r b en, en.length = 10 -> b + 1 <= 9 -> 11 <= f0 + (b + 1) -> Gi r (row r (b + 1) en) ∧ ∀ t r' b' en', row r (b + 1) en = .ok t r' b' en' -> b + 1 <= b') :
  ∀ (f : Nat) (first : Bool) (r : List UInt8) (b : Nat) (en : List Bool) (acc : List Pt), r.length < f -> b <= 9 -> en.length = 10 -> 10 <= f0 + b -> zLh r acc (gW row f first r b en acc) ∧ ∀ t r' b' en', gW row f first r b en acc = .ok t r' b' en' -> b <= b' := by
 intro f
 induction f with
 | zero => intro first r b en acc h; omega
 | succ f ih =>
  intro first r b en acc hf hb he hf0
  unfold gW
  cases hc : iZ r
  case true =>
   refine ⟨⟨List.suffix_refl _, Nat.le_refl _, hb, he⟩, ?_⟩
   intro t r' b' en' h
   simp only [cond_true, Res.ok.injEq] at h
   omega
  simp only [cond_false]
  cases hd : [36].isPrefixOf r && iZ (r.drop 1)
  case true =>
   simp only [Bool.and_eq_true] at hd
   have := gI hd.1
   simp only [List.length_cons, List.length_nil] at this
   refine ⟨⟨List.drop_suffix _ _, ?_, hb, he⟩, ?_⟩
   ·rw [xO]; simp only [szL, Pt.sz, List.length_drop]; omega
   ·intro t r' b' en' h
    simp only [cond_true, Res.ok.injEq] at h
    omega
  simp only [cond_false]
  have ha := Zc (first := first) (r := r) hb he (fun r hb => (hrow r b en he hb (by omega)).1)
  have hab : ∀ t r' b' en', mP row first r b en = .ok t r' b' en' -> b <= b' := fun t r' b' en' h => Zd (f0 := f0) (fun r b en he hb hf => (hrow r b en he hb hf).2) he hb hf0 h
  cases ho : mP row first r b en with
  | er e k => rw [ho] at ha; exact ⟨ha, by intro t r' b' en' h; simp at h⟩
  | ok t r1 b1 en1 =>
   have hb1 := hab _ _ _ _ ho
   rw [ho] at ha
   obtain ⟨a1, a2, a3, a4⟩ := ha
   simp only
   have ht := Vn t r1 b1 en1
   cases ho2 : pI t r1 b1 en1 with
   | er e k => rw [ho2] at ht; exact ⟨ht, by intro t r' b' en' h; simp at h⟩
   | ok t2 r2 b2 en2 =>
    rw [ho2] at ht
    obtain ⟨c1, rfl, rfl, c4⟩ := ht
    simp only
    have hlen := c1.length_le
    have hlen1 := a1.length_le
    have ht2 := t.dZ
    have := ih false r2 b2 en2 (acc ++ [t2]) (by omega) a3 a4 (by omega)
    cases ho3 : gW row f false r2 b2 en2 (acc ++ [t2]) with
    | er e k => rw [ho3] at this; exact ⟨this.1, by intro t r' b' en' h; simp at h⟩
    | ok ts r4 b4 en4 =>
     rw [ho3] at this
     obtain ⟨⟨d1, d2, d3, d4⟩, d5⟩ := this
     have d5 := d5 _ _ _ _ rfl
     refine ⟨⟨d1.trans (c1.trans a1), ?_, d3, d4⟩, ?_⟩
     ·rw [xO] at d2; simp only [szL] at d2; omega
     ·intro t r' b' en' h
      simp only [Res.ok.injEq] at h
      omega
theorem Cr : ∀ (f : Nat) (r : List UInt8) (b : Nat) (en : List Bool), 11 <= f + b -> b <= 9 -> en.length = 10 -> Gi r (fA f r b en) ∧ ∀ t r' b' en', fA f r b en = .ok t r' b' en' -> b <= b' := by
 intro f
 induction f with
 | zero => intro r b en h hb; omega
 | succ f ih =>
  intro r b en hf hb he
  unfold fA
  simp only
  have hr1 : (bif [94].isPrefixOf r then r.drop 1 else r) <:+ r := by
   cases [94].isPrefixOf r
   ·exact List.suffix_refl _
   ·exact List.drop_suffix _ _
  have hacc : szL (bif [94].isPrefixOf r then [Pt.bol] else []) + 3 * (bif [94].isPrefixOf r then r.drop 1 else r).length <= 3 * r.length := by
   cases h : [94].isPrefixOf r
   ·simp [szL]
   ·have := gI h
    simp only [List.length_cons, List.length_nil] at this
    simp [szL, Pt.sz]; omega
  have := Vo (row := fA f) (f0 := f) (fun r b en he hb hf => ih r (b + 1) en hf hb he) ((bif [94].isPrefixOf r then r.drop 1 else r).length + 1) true (bif [94].isPrefixOf r then r.drop 1 else r) b en (bif [94].isPrefixOf r then [Pt.bol] else []) (by omega) hb he (by omega)
  cases ho : gW (fA f) ((bif [94].isPrefixOf r then r.drop 1 else r).length + 1) true (bif [94].isPrefixOf r then r.drop 1 else r) b en (bif [94].isPrefixOf r then [Pt.bol] else []) with
  | er e k => rw [ho] at this; exact ⟨this.1, by intro t r' b' en' h; simp at h⟩
  | ok ts r2 b2 en2 =>
   rw [ho] at this
   obtain ⟨⟨d1, d2, d3, d4⟩, d5⟩ := this
   have d5 := d5 _ _ _ _ rfl
   refine ⟨⟨d1.trans hr1, ?_, d3, d4⟩, ?_⟩
   ·rw [zGp]; omega
   ·intro t r' b' en' h
    simp only [Res.ok.injEq] at h
    omega
end Go.Dec
namespace Go.Dec
def ROK (s : List UInt8) (l : List Nd) (o : Res (Option Pt)) (e : Option (Sum (Int × RdT) (Int × Int × RdT))) : Prop := match o with
 | .ok none r b en => e = some (.inl (-1, s, psn s r, (b : Int), en, l, ()))
 | .ok (some t) r b en => e = some (.inl (t.top l.length, s, psn s r, (b : Int), en, l ++ t.enc l.length, ()))
 | .er c k => ∃ x : RdT, e = some (.inr ((c : Int), ((s.length - k : Nat) : Int), x))
theorem zFk : ((List.range 256).all fun i => decide (Go.Lib.indexByte qB (UInt8.ofNat i) ≥ 0) == qB.contains (UInt8.ofNat i)) = true := by decide +kernel
theorem zAw (d : UInt8) : UInt8.ofNat d.toNat = d := by simp
theorem zJh {n : Nat} (d : UInt8) : (ob (strings_IndexByte n ([46, 91, 92, 42, 94, 36, 47], (d.toNat : Int))) fun y => some (decide (y ≥ 0))) = some (qB.contains d) := by
 have := Cg zFk d.toNat_lt
 rw [beq_iff_eq, zAw] at this
 unfold strings_IndexByte
 simp only [aI, Int.toNat_natCast]
 rw [show (d.toNat).toUInt8 = d from zAw d]
 rw [<- this]; rfl
theorem zSu (d : UInt8) : wd (bI d.toNat d.toNat) = wd (gV d) := vF fun i hi => by
 simp only [bI, gV]; rw [Bool.eq_iff_iff]; simp; omega
theorem zLi (d : UInt8) : wd (ofP [d]) = wd (gV d) := vF fun i hi => by
 simp only [ofP, gV]; rw [Bool.eq_iff_iff]; simp; omega
section
variable {n : Nat} {s r : List UInt8} {b : Nat} {en : List Bool} {l : List Nd} {rw' : RdT -> Option (Sum (Int × RdT) (Int × Int × RdT))} {row : List UInt8 -> Nat -> List Bool -> Res (Option Pt)}
theorem zDr {o : Res Pt} {e : Option (Sum (Int × RdT) (Int × Int × RdT))} (h : POK s l o e) : POK s l o (ob2 e (fun y11 =>
          some (.inl (y11.1, y11.2.1, y11.2.2.1, y11.2.2.2.1, y11.2.2.2.2.1, y11.2.2.2.2.2.1, ()))) (fun y11 =>
          some (.inr (y11.1, y11.2.1, y11.2.2.1, y11.2.2.2.1, y11.2.2.2.2.1, y11.2.2.2.2.2.1, y11.2.2.2.2.2.2.1, ())))) := by
  cases o with
  | er c k => obtain ⟨x, h⟩ := h; rw [h]; exact ⟨_, rfl⟩
  | ok t r b en => simp only [POK] at h; rw [h]; rfl
theorem Ng {p : Nat -> Bool} (hl : l.length < 900000) : POK s l (.ok (.bytes p) r b en) (ob (bU n (wd p, s, psn s r, (b : Int), en, l, ())) fun y => some (.inl (y.1, y.2.1, y.2.2.1, y.2.2.2.1, y.2.2.2.2.1, y.2.2.2.2.2.1, ()))) := by
 rw [zNs (by omega)]
 simp only [aI, POK, Pt.top, Pt.sz]
 congr 3; omega
theorem zNw {k : Nat} (h : r <:+ s) (hs : s.length < 100000) (hl : l.length + 3 * r.length < 800000) (he : en.length = 10) (hb : b <= 9)
    (hrow : b + 1 <= 9 -> Gi r (row r (b + 1) en) ∧ ROK s l (row r (b + 1) en) (rw' (s, psn s r, ((b + 1 : Nat) : Int), en, l, ()))) :
    POK s l (bif b == 9 then .er 41 k
          else match row r (b + 1) en with
            | .er e k => .er e k
            | .ok none _ _ _ => .er 41 k
            | .ok (some t) r3 b3 en3 => bif [92, 41].isPrefixOf r3 then .ok (.group t (b + 1)) (r3.drop 2) b3 (en3.set (b + 1) true) else .er 41 k)
      (lY n rw' (((s.length - k : Nat) : Int), s, psn s r, (b : Int), en, l, ())) := by
  have hg : ∀ {x : RdT}, POK s l (.er 41 k) (some (.inr (41, ((s.length - k : Nat) : Int), x))) := fun {x} => ⟨x, rfl⟩
  unfold lY
  simp only
  cases h9 : b == 9
  case true =>
    have : b = 9 := by simpa using h9
    rw [aD (by simp [this]), eB]
    exact hg
  have h9 : b ≠ 9 := by simpa using h9
  rw [aA (by simp; omega), bG (by omega) (by omega)]
  obtain ⟨hgood, hok⟩ := hrow (by omega)
  rw [show (b : Int) + 1 = ((b + 1 : Nat) : Int) from rfl]
  simp only [cond_false]
  cases ho : row r (b + 1) en with
  | er e k2 =>
    rw [ho] at hok
    obtain ⟨x, hok⟩ := hok
    rw [hok]
    exact ⟨_, rfl⟩
  | ok t r3 b3 en3 =>
    rw [ho] at hok hgood
    obtain ⟨g1, g2, g3, g4⟩ := hgood
    have hs3 : r3 <:+ s := g1.trans h
    cases t with
    | none =>
      simp only [ROK] at hok
      rw [hok]
      simp only [Ai]
      rw [aD (by rfl), eB]
      exact hg
    | some t =>
      simp only [ROK] at hok
      rw [hok]
      simp only [Ai]
      have htop : (t.top l.length == (-1)) = false := by
        rw [Bool.eq_false_iff, ne_eq, beq_iff_eq]; unfold Pt.top; have := t.dZ; omega
      rw [aA htop]
      cases hp : [92, 41].isPrefixOf r3
      · rw [nV hs3 hp]
        simp only [aI, Bool.not_false, bX, eB, iF, cond_false]
        exact hg
      · rw [nU hs3 (by omega) hp]
        simp only [aI, Bool.not_true, bC, cond_true]
        rw [aC (fF (by omega) (by omega)), aC (by simp; omega)]
        simp only at g2
        rw [Cq (by rw [List.length_append, Pt.dR]; omega)]
        simp only [aI, POK, Pt.enc, Pt.top, Pt.sz, List.length_append, Pt.dR, List.append_assoc, Int.toNat_natCast]
        congr 3; omega
theorem zQn {first : Bool} (h : r <:+ s) (hne : r ≠ []) (hs : s.length < 100000) (hn : s.length + 500 <= n) (hl : l.length + 3 * r.length < 800000) (he : en.length = 10) (hb : b <= 9)
  (hrow : ∀ r2, r2 <:+ r -> r2.length < r.length -> b + 1 <= 9 -> Gi r2 (row r2 (b + 1) en) ∧ ROK s l (row r2 (b + 1) en) (rw' (s, psn s r2, ((b + 1 : Nat) : Int), en, l, ()))) :
  POK s l (mP row first r b en) (nP n rw' (first, s, psn s r, (b : Int), en, l, ())) := by
 have hlen := wM h
 unfold nP mP
 cases r with
 | nil => exact absurd rfl hne
 | cons c r1 =>
  simp only
  simp only [List.length_cons] at hl hlen
  have h1 : r1 <:+ s := (List.suffix_cons _ _).trans h
  have e46 : [46].isPrefixOf (c :: r1) = (46 == c) := by simp [List.isPrefixOf]
  have e91 : [91].isPrefixOf (c :: r1) = (91 == c) := by simp [List.isPrefixOf]
  have e92 : [92].isPrefixOf (c :: r1) = (92 == c) := by simp [List.isPrefixOf]
  rw [Xq c 46, Xq c 91, Xq c 92]
  cases h46 : (46 == c)
  case true =>
   rw [nU h (by omega) (by rw [e46, h46])]
   simp only [aI, bX, cond_true]
   have := Vh (n := n) (by omega) (fun _ => false)
   rw [nA] at this
   rw [this]
   simp only [aI]
   exact Ng (r := r1) (by omega)
  rw [nV h (by rw [e46, h46])]
  simp only [aI, bC, cond_false]
  rw [qC h, e91]
  simp only [aI]
  cases h91 : (91 == c)
  case true =>
   simp only [bX, cond_true]
   rw [aC (zLf h), Av, Cn h, Xr (by omega) (by simp only [List.length_cons]; omega) (by simp only [List.length_cons]; omega)]
   simp only [aI]
   cases hk : Ck (c :: r1) with
   | none =>
    simp only [zNr]
    rw [aD (by rfl), eB]
    exact ⟨_, rfl⟩
   | some x =>
    obtain ⟨p, k⟩ := x
    have hk2 := zDm hk
    simp only [zNr]
    rw [aA (by rfl), rM h (by omega) hk2.2]
    exact Ng (r := (c :: r1).drop k) (by omega)
  simp only [bC, cond_false]
  rw [qC h, e92]
  simp only [aI]
  have hp1 : IntKind.wrap .i64 (psn s (c :: r1) + 1) = psn s r1 := rM h (by omega) (k := 1) (by simp)
  cases h92 : (92 == c)
  case false =>
   simp only [bC, cond_false]
   rw [hp1]
   have e0 : IntKind.wrap .i64 (psn s r1 - 1) = psn s (c :: r1) := by
    rw [<- hp1, bG (x := psn s (c :: r1) + 1) (by unfold psn; omega) (by unfold psn; omega), bG (by unfold psn; omega) (by unfold psn; omega)]; omega
   rw [e0]
   have hps : psn s (c :: r1) = ((s.length - (r1.length + 1) : Nat) : Int) := rfl
   have zVx : psn s r1 = ((s.length - r1.length : Nat) : Int) := rfl
   rw [aC (by rw [hps, zVx]; simp; omega), Av, Av]
   have e : (s.take (s.length - r1.length)).drop (s.length - (c :: r1).length) = [c] := by
    rw [List.drop_take, Cn h]
    simp only [List.length_cons]
    rw [show s.length - r1.length - (s.length - (r1.length + 1)) = 1 by omega]; rfl
   rw [e, Mx _ (by simp; omega) (by simp), zLi]
   simp only [aI]
   exact Ng (r := r1) (by omega)
  simp only [bX, cond_true]
  refine zDr ?_
  unfold nO
  simp only
  rw [hp1, Xt h1]
  cases r1 with
  | nil =>
   simp only [List.isEmpty_nil, bX, eB, iF]
   exact ⟨_, rfl⟩
  | cons d r2 =>
   have h2 : r2 <:+ s := (List.suffix_cons _ _).trans h1
   simp only [List.length_cons] at hlen hl
   simp only [List.isEmpty_cons, bC]
   have hin : inB (psn s (d :: r2)) s.length = true := fF (by unfold psn; omega) (by unfold psn; simp only [List.length_cons]; omega)
   have hgd : aQ 0 s (psn s (d :: r2)) = d := by
    have := zGn (d := 0) h1 (j := 0) (c := d) rfl
    simpa using this
   have hp2 : IntKind.wrap .i64 (psn s (d :: r2) + 1) = psn s r2 := rM h1 (by omega) (k := 1) (by simp)
   rw [aC hin, hgd, hp2]
   have e40 : ((d.toNat : Int) == 40) = (d == 40) := by rw [Xq]; exact eqI 40
   have zVy : ((d.toNat : Int) == 110) = (d == 110) := by rw [Xq]; exact eqI 110
   have zVz : ((d.toNat : Int) == 123) = (d == 123) := by rw [Xq]; exact eqI 123
   rw [e40, zVy, zVz]
   cases h40 : (d == 40)
   case true =>
    simp only [bX, cond_true]
    have hG := zNw (n := n) (row := row) (rw' := rw') (k := (c :: d :: r2).length) (l := l) (en := en) (b := b) h2 hs (by omega) he hb (fun hb9 => hrow r2 ((List.suffix_cons _ _).trans (List.suffix_cons _ _)) (by simp only [List.length_cons]; omega) hb9)
    have hpk : ((s.length - (c :: d :: r2).length : Nat) : Int) = psn s (c :: d :: r2) := rfl
    rw [hpk] at hG
    exact zDr hG
   simp only [bC, cond_false]
   have hrest : POK s l (bif d == 110 then .ok (.bytes (gV 10)) r2 b en
    else bif qB.contains d then .ok (.bytes (gV d)) r2 b en
    else bif d == 123 && first then .er 43 (c :: d :: r2).length
    else .er 40 (c :: d :: r2).length) (
     br (d == 110) (
      ob (nN n [10]) fun y15 =>
      ob (bU n (y15, s, psn s r2, (b : Int), en, l, ())) fun y16 =>
      some (.inl (y16.1, y16.2.1, y16.2.2.1, y16.2.2.2.1, y16.2.2.2.2.1, y16.2.2.2.2.2.1, ()))) (
      ob (strings_IndexByte n ([46, 91, 92, 42, 94, 36, 47], (d.toNat : Int))) fun y17 =>
      br (decide (y17 ≥ 0)) (
       ob (bQ n ((d.toNat : Int), (d.toNat : Int))) fun y18 =>
       ob (bU n (y18, s, psn s r2, (b : Int), en, l, ())) fun y19 =>
       some (.inl (y19.1, y19.2.1, y19.2.2.1, y19.2.2.2.1, y19.2.2.2.2.1, y19.2.2.2.2.2.1, ()))) (
       br (d == 123) (
        br first (
         ob2 (aF n (43, psn s (c :: d :: r2), s, psn s r2, (b : Int), en, l, ())) (fun y20 =>
          none) (fun y20 =>
          some (.inr (y20.1, y20.2.1, y20.2.2.1, y20.2.2.2.1, y20.2.2.2.2.1, y20.2.2.2.2.2.1, y20.2.2.2.2.2.2.1, ())))) (
         ob2 (aF n (40, psn s (c :: d :: r2), s, psn s r2, (b : Int), en, l, ())) (fun y21 =>
          none) (fun y21 =>
          some (.inr (y21.1, y21.2.1, y21.2.2.1, y21.2.2.2.1, y21.2.2.2.2.1, y21.2.2.2.2.2.1, y21.2.2.2.2.2.2.1, ()))))) (
        ob2 (aF n (40, psn s (c :: d :: r2), s, psn s r2, (b : Int), en, l, ())) (fun y22 =>
         none) (fun y22 =>
         some (.inr (y22.1, y22.2.1, y22.2.2.1, y22.2.2.2.1, y22.2.2.2.2.1, y22.2.2.2.2.2.1, y22.2.2.2.2.2.2.1, ()))))))) := by
    cases zXj : (d == 110)
    case true =>
     simp only [bX, cond_true]
     rw [Mx _ (by simp; omega) (by simp), zLi]
     simp only [aI]
     exact Ng (by omega)
    simp only [bC, cond_false]
    have hsp := zJh (n := n) d
    cases hix : strings_IndexByte n ([46, 91, 92, 42, 94, 36, 47], (d.toNat : Int)) with
    | none => rw [hix] at hsp; exact absurd hsp (by simp [ob])
    | some y =>
     rw [hix] at hsp
     simp only [aI, Option.some.injEq] at hsp ⊢
     rw [hsp]
     cases qB.contains d
     case true =>
      simp only [bX, cond_true]
      rw [wL (by omega) d.toNat_lt d.toNat_lt, zSu]
      simp only [aI]
      exact Ng (by omega)
     simp only [bC, cond_false, eB, iF]
     cases (d == 123) <;> cases first <;> exact ⟨_, rfl⟩
   by_cases h49 : 49 <= d.toNat
   ·rw [aD (by simp; omega), decide_eq_true h49]
    by_cases h57 : d.toNat <= 57
    ·rw [aD (by simp; omega), decide_eq_true h57]
     simp only [Bool.and_self, cond_true]
     have hv : IntKind.wrap .i64 (IntKind.wrap .u8 ((d.toNat : Int) - 48)) = ((d.toNat - 48 : Nat) : Int) := by
      rw [IntWalk.u8_in _ (by omega), bG (by omega) (by omega)]; omega
     rw [hv, aC (fF (by omega) (by omega)), aC (by simp; omega), Int.toNat_natCast, show Ty.dflt .bool = false from rfl]
     cases en.getD (d.toNat - 48) false
     ·simp only [Bool.not_false, bX, eB, iF, cond_false]
      exact ⟨_, rfl⟩
     ·simp only [Bool.not_true, bC, cond_true]
      rw [Cq (by omega)]
      simp only [aI, POK, Pt.enc, Pt.top, Pt.sz]
      congr 3; omega
    ·rw [aA (by simp; omega), decide_eq_false h57, Bool.and_false]
     simp only [cond_false]
     exact hrest
   ·rw [aA (by simp; omega), decide_eq_false h49, Bool.false_and]
    simp only [cond_false]
    exact hrest
end
end Go.Dec
namespace Go.Dec
def szA : List Pt -> Nat
 | [] => 0
 | t :: ts => t.sz + szA ts
def iT : Nat -> List Pt -> List Nd
 | _, [] => []
 | o, t :: ts => t.enc o ++ iT (o + t.sz) ts
def iU : Nat -> List Pt -> List Int
 | _, [] => []
 | o, t :: ts => t.top o :: iU (o + t.sz) ts
theorem Aw : ∀ (a b : List Pt), szA (a ++ b) = szA a + szA b
 | [], b => by simp [szA]
 | t :: a, b => by simp [szA, Aw a b]; omega
theorem zDs : ∀ ts : List Pt, szA ts + ts.length = szL ts
 | [] => rfl
 | t :: ts => by have := zDs ts; simp [szA, szL]; omega
theorem Ct : ∀ (ts : List Pt) (o : Nat), (iT o ts).length = szA ts
 | [], _ => rfl
 | t :: ts, o => by simp [iT, szA, Pt.dR, Ct ts]
theorem Cu : ∀ (ts : List Pt) (o : Nat) (t : Pt), iT o (ts ++ [t]) = iT o ts ++ t.enc (o + szA ts)
 | [], o, t => by simp [iT, szA]
 | u :: ts, o, t => by simp [iT, szA, Cu ts, Nat.add_assoc]
theorem Nh : ∀ (ts : List Pt) (o : Nat) (t : Pt), iU o (ts ++ [t]) = iU o ts ++ [t.top (o + szA ts)]
 | [], o, t => by simp [iU, szA]
 | u :: ts, o, t => by simp [iU, szA, Nh ts, Nat.add_assoc]
theorem yV : ∀ (ts : List Pt) (o : Nat), (iU o ts).length = ts.length
 | [], _ => rfl
 | t :: ts, o => by simp [iU, yV ts]
theorem zDt (pre : List Pt) (t : Pt) (post : List Pt) (o : Nat) (d : Int) : (iU o (pre ++ t :: post)).getD pre.length d = t.top (o + szA pre) := by
 induction pre generalizing o with
 | nil => simp [iU, szA]
 | cons u pre ih => simp only [List.cons_append, iU, szA, List.length_cons, List.getD_cons_succ]; rw [ih]; congr 1; omega
theorem Rz : ∀ (pre : List Pt) (t : Pt), kJ (pre ++ [t]) = some (pre.foldr Pt.cat t)
 | [], t => rfl
 | u :: pre, t => by simp only [List.cons_append, kJ, Rz pre t, List.foldr_cons]
section
variable {n : Nat} {s : List UInt8} {l : List Nd} {rw' : RdT -> Option (Sum (Int × RdT) (Int × Int × RdT))}
theorem zNx {at' : Int} {b : Int} {en : List Bool} {ts : List Pt} (hl : l.length + szL ts < 900000) : ∀ (k m : Nat) (pre suf : List Pt) (u : Pt), pre.length = k -> ts = pre ++ suf -> szA pre + u.sz + pre.length <= szL ts -> k < m ->
  fix (kU n) m (u.top (l.length + szA pre), (k : Int) - 1, s, at', b, en, l ++ iT l.length pre ++ u.enc (l.length + szA pre), iU l.length ts, ()) =
   some (.inl ((pre.foldr Pt.cat u).top l.length, s, at', b, en, l ++ (pre.foldr Pt.cat u).enc l.length, ())) := by
 intro k
 induction k with
 | zero =>
  intro m pre suf u hk hts hsz hm
  have : pre = [] := List.eq_nil_of_length_eq_zero hk
  subst this
  rw [dM hm, kU]
  simp only
  rw [aA (by simp)]
  simp [iT, szA]
 | succ k ih =>
  intro m pre suf u hk hts hsz hm
  obtain ⟨pre', t, rfl⟩ : ∃ pre' t, pre = pre' ++ [t] := by
   rcases List.eq_nil_or_concat pre with rfl | ⟨p, t, rfl⟩
   ·simp at hk
   ·exact ⟨p, t, by simp⟩
  have hk' : pre'.length = k := by simpa using hk
  have zNy : ts = pre' ++ t :: suf := by rw [hts]; simp
  have hat := zDt pre' t suf l.length 0
  rw [<- zNy, hk'] at hat
  have hlen : (iU l.length ts).length = ts.length := yV _ _
  have htl : k < ts.length := by rw [zNy]; simp; omega
  rw [dM (by omega), kU]
  simp only
  rw [show ((k + 1 : Nat) : Int) - 1 = (k : Int) by omega]
  rw [aD (by simp), hlen, aC (by rw [iN htl]; simp), Int.toNat_natCast, Nat.zero_add, aC (by simp; omega), show Ty.dflt (.int .i64) = (0 : Int) from rfl, hat]
  rw [Aw] at hsz
  simp only [szA, List.length_append, List.length_cons, List.length_nil] at hsz
  rw [Cq (by simp only [List.length_append, Ct, Aw, Pt.dR, szA]; omega)]
  simp only [aI]
  rw [bG (by omega) (by omega)]
  have hc := ih (m - 1) pre' (t :: suf) (.cat t u) hk' zNy (by simp only [Pt.sz]; omega) (by omega)
  have e1 : (((l ++ iT l.length (pre' ++ [t]) ++ u.enc (l.length + szA (pre' ++ [t]))).length : Nat) : Int) = (Pt.cat t u).top (l.length + szA pre') := by
   simp only [List.length_append, Ct, Aw, Pt.dR, szA, Pt.top, Pt.sz]; omega
  have e2 : l ++ iT l.length (pre' ++ [t]) ++ u.enc (l.length + szA (pre' ++ [t])) ++ [(4, [0, 0, 0, 0], t.top (l.length + szA pre'), u.top (l.length + szA (pre' ++ [t])), 0, 0, 0, ())] = l ++ iT l.length pre' ++ (Pt.cat t u).enc (l.length + szA pre') := by
   simp only [Cu, Aw, szA, Pt.enc, List.append_assoc, Nat.add_zero, Nat.add_assoc]
  rw [e1, e2, hc, List.foldr_append]; rfl
theorem zDu {r : List UInt8} {b : Nat} {en : List Bool} {ts : List Pt} (hn : szL ts + 10 <= n) (hl : l.length + szL ts < 900000) :
  ROK s l (.ok (kJ ts) r b en) (kV n (s, psn s r, (b : Int), en, l ++ iT l.length ts, iU l.length ts, ())) := by
 unfold kV
 simp only
 rw [yV]
 have hsl := zDs ts
 rcases List.eq_nil_or_concat ts with rfl | ⟨pre, t, h⟩
 ·rw [aD (by rfl)]
  simp [kJ, ROK, iT]
 ·have hts : ts = pre ++ [t] := by rw [h]; simp
  have hlen : ts.length = pre.length + 1 := by rw [hts]; simp
  have hat := zDt pre t [] l.length 0
  rw [show pre ++ t :: [] = ts by rw [hts]] at hat
  rw [aA (by simp; exact fun h => by rw [h] at hlen; simp at hlen), hlen]
  rw [bG (x := ((pre.length + 1 : Nat) : Int) - 1) (by omega) (by omega), bG (by omega) (by omega)]
  rw [show ((pre.length + 1 : Nat) : Int) - 1 = (pre.length : Int) by omega, show ((pre.length + 1 : Nat) : Int) - 2 = (pre.length : Int) - 1 by omega]
  rw [aC (by rw [iN (by omega)]; simp), Int.toNat_natCast, Nat.zero_add, aC (by simp), show Ty.dflt (.int .i64) = (0 : Int) from rfl, hat]
  have hc := zNx (n := n) (s := s) (l := l) (at' := psn s r) (b := (b : Int)) (en := en) (ts := ts) hl pre.length n pre [t] t rfl hts (by rw [hts, Aw] at hsl; simp only [szA] at hsl; rw [hts]; simp only [List.length_append, List.length_cons, List.length_nil] at hsl; omega) (by omega)
  have e : l ++ iT l.length ts = l ++ iT l.length pre ++ t.enc (l.length + szA pre) := by rw [hts, Cu, List.append_assoc]
  rw [e, hc]
  have zWa : kJ ts = some (pre.foldr Pt.cat t) := by rw [hts]; exact Rz pre t
  rw [zWa]
  rfl
theorem Ze {f0 R : Nat} (hs : s.length < 100000) (hn : 3 * s.length + 500 <= n)
  (hrow : ∀ r2 b2 en2 l2, r2 <:+ s -> r2.length < R -> b2 + 1 <= 9 -> 11 <= f0 + (b2 + 1) -> en2.length = 10 -> l2.length + 3 * r2.length < 800000 -> ROK s l2 (fA f0 r2 (b2 + 1) en2) (rw' (s, psn s r2, ((b2 + 1 : Nat) : Int), en2, l2, ()))) :
  ∀ (f m : Nat) (first : Bool) (r : List UInt8) (b : Nat) (en : List Bool) (acc : List Pt), r <:+ s -> r.length <= R -> r.length < f -> f <= m -> b <= 9 -> en.length = 10 -> 10 <= f0 + b -> l.length + szL acc + 3 * r.length < 800000 -> szL acc + 3 * r.length <= 3 * s.length ->
   ROK s l (match gW (fA f0) f first r b en acc with
    | .er e k => .er e k
    | .ok ts r2 b2 en2 => .ok (kJ ts) r2 b2 en2) (fix (iO n rw') m (first, s, psn s r, (b : Int), en, l ++ iT l.length acc, iU l.length acc, ())) := by
 intro f
 induction f with
 | zero => intro m first r b en acc _ _ h; omega
 | succ f ih =>
  intro m first r b en acc h hR hf hm hb he hf0 hl hsz
  have hle := wM h
  have hal := zDs acc
  rw [dM (by omega), iO]
  simp only
  rw [zLg h]
  unfold gW
  simp only [aI]
  cases hc : iZ r
  case true =>
   simp only [Bool.not_true, bC, cond_true, pG]
   exact zDu (by omega) (by omega)
  simp only [Bool.not_false, bX, cond_false]
  rw [qC h]
  simp only [aI]
  have hne : r ≠ [] := by intro e; subst e; simp [iZ] at hc
  have hgo : ROK s l (match (match mP (fA f0) first r b en with
   | .er e k => (.er e k : Res (List Pt))
   | .ok t r1 b1 en1 => match pI t r1 b1 en1 with
    | .er e k => .er e k
    | .ok t2 r2 b2 en2 => gW (fA f0) f false r2 b2 en2 (acc ++ [t2])) with
    | .er e k => .er e k
    | .ok ts r2 b2 en2 => .ok (kJ ts) r2 b2 en2) (eY n rw' (fix (iO n rw') (m - 1)) (first, false, s, psn s r, (b : Int), en, l ++ iT l.length acc, iU l.length acc, ())) := by
   unfold eY
   simp only [bC]
   have hll : (l ++ iT l.length acc).length = l.length + szA acc := by rw [List.length_append, Ct]
   have ha := zQn (n := n) (rw' := rw') (row := fA f0) (l := l ++ iT l.length acc) (first := first) h hne hs (by omega) (by rw [hll]; omega) he hb
    (fun r2 hr2 hlt hb1 => ⟨(Cr f0 r2 (b + 1) en (by omega) hb1 he).1, hrow r2 b en _ (hr2.trans h) (by omega) hb1 (by omega) he (by rw [hll]; omega)⟩)
   have hg := Zc (row := fA f0) (first := first) (r := r) hb he (fun r hb1 => (Cr f0 r (b + 1) en (by omega) hb1 he).1)
   have hbb := (Vo (row := fA f0) (f0 := f0) (fun r b en he hb hf => Cr f0 r (b + 1) en hf hb he) (f + 1) first r b en acc hf hb he hf0)
   cases ho : mP (fA f0) first r b en with
   | er e k =>
    rw [ho] at ha
    obtain ⟨x, ha⟩ := ha
    rw [ha]
    exact ⟨_, rfl⟩
   | ok t r1 b1 en1 =>
    rw [ho] at ha hg
    obtain ⟨g1, g2, g3, g4⟩ := hg
    simp only [POK] at ha
    rw [ha]
    simp only [Ai]
    have h1 : r1 <:+ s := g1.trans h
    have htm := zNu (n := n) (l := l ++ iT l.length acc) (t := t) (b := b1) (en := en1) h1 (by omega) (by omega) (by rw [hll]; omega)
    have htg := Vn t r1 b1 en1
    have htp := t.dZ
    rw [hll] at htm ⊢
    cases ho2 : pI t r1 b1 en1 with
    | er e k =>
     rw [ho2] at htm
     obtain ⟨x, htm⟩ := htm
     rw [htm]
     exact ⟨_, rfl⟩
    | ok t2 r2 b2 en2 =>
     rw [ho2] at htm htg
     obtain ⟨c1, rfl, rfl, c4⟩ := htg
     simp only [POK] at htm
     rw [htm]
     simp only [Ai]
     have hc1 := c1.length_le
     have hg1 := g1.length_le
     rw [aC (by rw [yV]; simp [room]; omega), hll]
     have e1 : l ++ iT l.length acc ++ t2.enc (l.length + szA acc) = l ++ iT l.length (acc ++ [t2]) := by rw [Cu, List.append_assoc]
     have e2 : iU l.length acc ++ [t2.top (l.length + szA acc)] = iU l.length (acc ++ [t2]) := (Nh _ _ _).symm
     rw [e1, e2]
     have zWi : b <= b2 := by
      cases hi : mP (fA f0) first r b en with
      | er e k => rw [hi] at ho; exact absurd ho (by simp)
      | ok t' r' b' en' =>
       rw [hi] at ho
       simp only [Res.ok.injEq] at ho
       have := Zd (row := fA f0) (f0 := f0) (fun r b en he hb hf => (Cr f0 r (b + 1) en hf hb he).2) he hb hf0 hi
       omega
     exact ih (m - 1) false r2 b2 en2 (acc ++ [t2]) (c1.trans h1) (by omega) (by omega) (by omega) g3 g4 (by omega) (by rw [xO]; simp only [szL]; omega) (by rw [xO]; simp only [szL]; omega)
  have hend : ∀ r1, r = 36 :: r1 -> ROK s l (.ok (kJ (acc ++ [.eol])) r1 b en) (eY n rw' (fix (iO n rw') (m - 1)) (first, true, s, psn s r, (b : Int), en, l ++ iT l.length acc, iU l.length acc, ())) := by
   intro r1 hr
   unfold eY
   simp only [bX]
   have hrl : r.length = r1.length + 1 := by rw [hr]; rfl
   have hp : IntKind.wrap .i64 (psn s r + 1) = psn s r1 := by
    have := rM h (by omega) (k := 1) (by omega)
    rw [hr] at this ⊢
    exact this
   have hll : (l ++ iT l.length acc).length = l.length + szA acc := by rw [List.length_append, Ct]
   rw [hp, Cq (by rw [hll]; omega)]
   simp only [aI]
   rw [aC (by rw [yV]; simp [room]; omega), pG, hll]
   have e1 : l ++ iT l.length acc ++ [(3, [0, 0, 0, 0], 0, 0, 0, 0, 0, ())] = l ++ iT l.length (acc ++ [.eol]) := by rw [Cu, List.append_assoc]; rfl
   have e2 : iU l.length acc ++ [((l.length + szA acc : Nat) : Int)] = iU l.length (acc ++ [.eol]) := by
    rw [Nh]; congr 2; simp only [Pt.top, Pt.sz]; omega
   rw [e1, e2]
   exact zDu (by rw [xO]; simp only [szL, Pt.sz]; omega) (by rw [xO]; simp only [szL, Pt.sz]; omega)
  cases hd : [36].isPrefixOf r
  ·simp only [bC, Bool.false_and, cond_false, pG]
   exact hgo
  ·obtain ⟨r1, hr⟩ := zVw hd
   simp only [bX, Bool.true_and, pG]
   have hrl : r.length = r1.length + 1 := by rw [hr]; rfl
   have hp : IntKind.wrap .i64 (psn s r + 1) = psn s r1 := by
    have := rM h (by omega) (k := 1) (by omega)
    rw [hr] at this ⊢
    exact this
   have h1 : r1 <:+ s := by rw [hr] at h; exact (List.suffix_cons _ _).trans h
   rw [hp, Xt h1, show r.drop 1 = r1 by rw [hr]; rfl]
   unfold iZ
   cases hem : r1.isEmpty
   ·simp only [bC, Bool.false_or]
    rw [qC h, show [36, 92, 41].isPrefixOf r = [92, 41].isPrefixOf r1 by rw [hr]; simp [List.isPrefixOf]]
    simp only [aI]
    cases [92, 41].isPrefixOf r1
    ·exact hgo
    ·exact hend r1 hr
   ·simp only [bX, Bool.true_or, cond_true]
    exact hend r1 hr
theorem zSv : ∀ (f n : Nat) (r : List UInt8) (b : Nat) (en : List Bool) (l : List Nd), s.length < 100000 -> 3 * s.length + 500 + f <= n -> r <:+ s -> 11 <= f + b -> b <= 9 -> en.length = 10 -> l.length + 3 * r.length < 800000 -> ROK s l (fA f r b en) (gH n (s, psn s r, (b : Int), en, l, ())) := by
 intro f
 induction f with
 | zero => intro n r b en l _ _ _ h hb; omega
 | succ f ih =>
  intro n r b en l hs hn h hf hb he hl
  obtain ⟨n, rfl⟩ : ∃ k, n = k + 1 := ⟨n - 1, by omega⟩
  have hle := wM h
  have zWb : gH (n + 1) (s, psn s r, (b : Int), en, l, ()) = mM n (gH n) (s, psn s r, (b : Int), en, l, ()) := rfl
  rw [zWb]
  unfold mM fA
  simp only
  cases h94 : [94].isPrefixOf r
  ·rw [nV h h94]
   simp only [aI, bC, cond_false, pG, kW]
   have := Ze (n := n) (s := s) (l := l) (rw' := gH n) (f0 := f) (R := r.length) hs (by omega)
    (fun r2 b2 en2 l2 h2 _ hb2 hf2 he2 hl2 => ih n r2 (b2 + 1) en2 l2 hs (by omega) h2 hf2 hb2 he2 hl2) (r.length + 1) n true r b en [] h (Nat.le_refl _) (by omega) (by omega) hb he (by omega) (by simp only [szL]; omega) (by simp only [szL]; omega)
   simp only [iT, iU, List.append_nil] at this
   exact this
  ·rw [nU h (by omega) h94]
   have hp := gI h94
   simp only [List.length_cons, List.length_nil] at hp
   simp only [aI, bX, cond_true]
   rw [Cq (by omega)]
   simp only [aI]
   rw [aC (by simp [room]), pG, kW]
   simp only
   have hd := List.length_drop (i := 1) (l := r)
   have := Ze (n := n) (s := s) (l := l) (rw' := gH n) (f0 := f) (R := r.length) hs (by omega)
    (fun r2 b2 en2 l2 h2 _ hb2 hf2 he2 hl2 => ih n r2 (b2 + 1) en2 l2 hs (by omega) h2 hf2 hb2 he2 hl2) ((r.drop 1).length + 1) n true (r.drop 1) b en [.bol] (uD h 1) (by omega) (by omega) (by omega) hb he (by omega) (by simp only [szL, Pt.sz]; omega) (by simp only [szL, Pt.sz]; omega)
   have e2 : iU l.length [.bol] = [((l.length : Nat) : Int)] := by simp only [iU, Pt.top, Pt.sz]; congr 1; omega
   simp only [iT, Pt.enc, List.append_nil] at this
   rw [e2] at this
   exact this
end
theorem zLj {row : List UInt8 -> Nat -> List Bool -> Res (Option Pt)} : ∀ (f : Nat) (first : Bool) (r : List UInt8) (b : Nat) (en : List Bool) (acc ts : List Pt) (r' : List UInt8) (b' : Nat) (en' : List Bool), gW row f first r b en acc = .ok ts r' b' en' -> (ts = acc ∧ r' = r) ∨ acc.length < ts.length := by
 intro f
 induction f with
 | zero => intro first r b en acc ts r' b' en' h; simp [gW] at h
 | succ f ih =>
  intro first r b en acc ts r' b' en' h
  unfold gW at h
  cases hc : iZ r <;> rw [hc] at h <;> simp only [cond_true, cond_false, Res.ok.injEq] at h
  case true => exact Or.inl ⟨h.1.symm, h.2.1.symm⟩
  cases hd : [36].isPrefixOf r && iZ (r.drop 1) <;> rw [hd] at h <;> simp only [cond_true, cond_false, Res.ok.injEq] at h
  case true => exact Or.inr (by rw [<- h.1]; simp)
  cases ho : mP row first r b en with
  | er e k => rw [ho] at h; simp at h
  | ok t r1 b1 en1 =>
   rw [ho] at h
   simp only at h
   cases ho2 : pI t r1 b1 en1 with
   | er e k => rw [ho2] at h; simp at h
   | ok t2 r2 b2 en2 =>
    rw [ho2] at h
    simp only at h
    rcases ih _ _ _ _ _ _ _ _ _ h with ⟨h1, _⟩ | h1
    ·exact Or.inr (by rw [h1]; simp)
    ·exact Or.inr (by simp at h1; omega)
theorem zAd {f : Nat} {r r' : List UInt8} {b b' : Nat} {en en' : List Bool} (h : fA f r b en = .ok none r' b' en') : r' = r := by
 cases f with
 | zero => simp [fA] at h
 | succ f =>
  unfold fA at h
  simp only at h
  cases ho : gW (fA f) ((bif [94].isPrefixOf r then r.drop 1 else r).length + 1) true (bif [94].isPrefixOf r then r.drop 1 else r) b en (bif [94].isPrefixOf r then [Pt.bol] else []) with
  | er e k => rw [ho] at h; simp at h
  | ok ts r2 b2 en2 =>
   rw [ho] at h
   simp only [Res.ok.injEq] at h
   have hts : ts = [] := by
    rcases List.eq_nil_or_concat ts with hh | ⟨p, t, hh⟩
    ·exact hh
    ·rw [hh, List.concat_eq_append, Rz] at h; simp at h
   rcases zLj _ _ _ _ _ _ _ _ _ _ ho with ⟨h1, h2⟩ | h1
   ·rw [hts] at h1
    cases h94 : [94].isPrefixOf r
    ·rw [h94] at h2; rw [<- h.2.1, h2]; rfl
    ·rw [h94] at h1; simp at h1
   ·rw [hts] at h1; simp at h1
def zLk : Sum Pt (Nat × Nat) -> List Nd × Int × Int
 | .inl t => (t.enc 0, 0, 0)
 | .inr (e, k) => ([], (k : Int), (e : Int))
theorem zDv {n : Nat} {s : List UInt8} (hs : s.length < 100000) (hn : 3 * s.length + 600 <= n) : jU n s = some (zLk (Cm s)) := by
 unfold jU
 simp only
 cases s with
 | nil => rfl
 | cons c s0 =>
  generalize hsv : c :: s0 = s at *
  have hne : s ≠ [] := by rw [<- hsv]; simp
  rw [aA (by simpa using hne)]
  have hps : Cm s = match fA 11 s 0 mF with
   | .er e k => .inr (e, s.length - k)
   | .ok t r _ _ =>
    match r with
    | [] => match t with
     | none => .inr (41, s.length)
     | some t => bif decide (t.sz > 120) then .inr (2, 0) else .inl t
    | _ => .inr (41, s.length - r.length) := by rw [<- hsv]; rfl
  rw [hps]
  have hrow := zSv (s := s) 11 n s 0 mF [] hs (by omega) (List.suffix_refl _) (by omega) (by omega) rfl (by simp; omega)
  have hgood := (Cr 11 s 0 mF (by omega) (by omega) rfl).1
  have hp0 : psn s s = 0 := by unfold psn; omega
  rw [hp0] at hrow
  unfold fH tT
  simp only
  have zUh : ([false, false, false, false, false, false, false, false, false, false] : List Bool) = mF := rfl
  rw [zUh]
  cases ho : fA 11 s 0 mF with
  | er e k =>
   rw [ho] at hrow hgood
   obtain ⟨x, hrow⟩ := hrow
   obtain ⟨e1, e2⟩ := hgood
   rw [show (((0 : Nat) : Int)) = 0 from rfl] at hrow
   rw [hrow]
   simp only [iF, aI]
   rw [aD (by simp; omega)]
   rfl
  | ok t r b2 en2 =>
   rw [ho] at hrow hgood
   obtain ⟨g1, g2, g3, g4⟩ := hgood
   have hgl := g1.length_le
   have hlt : ∀ c r', r = c :: r' -> psn s r < (s.length : Int) := by
    intro c r' hr; rw [hr] at hgl ⊢; unfold psn; simp only [List.length_cons] at hgl ⊢; omega
   have hrow' : ∃ top row, gH n (s, 0, 0, mF, [], ()) = some (.inl (top, s, psn s r, (b2 : Int), en2, row, ())) ∧ (match t with | none => True | some t => row = t.enc 0) := by
    cases t with
    | none => exact ⟨_, _, hrow, trivial⟩
    | some t => exact ⟨_, _, hrow, by simp⟩
   obtain ⟨top, row, hr1, hr2⟩ := hrow'
   rw [hr1]
   simp only [Ai]
   cases hr : r with
   | cons c2 r2 =>
    have := hlt c2 r2 hr
    rw [hr] at this
    rw [aD (decide_eq_true this), eB]
    simp only [iF, aI]
    rw [aD (by rfl)]
    rfl
   | nil =>
    have he : psn s [] = (s.length : Int) := by unfold psn; simp
    rw [aA (by rw [he]; simp)]
    cases t with
    | none =>
     exfalso
     have := zAd ho
     rw [hr] at this
     exact absurd this hne.symm
    | some t =>
     simp only at hr2 g2 ⊢
     rw [hr2, Pt.dR]
     by_cases zDw : t.sz > 120
     ·rw [aD (by simp; omega), decide_eq_true zDw, eB]
      simp only [iF, aI, cond_true]
      rw [aD (by rfl)]
      rfl
     ·rw [aA (by simp; omega), decide_eq_false zDw]
      simp only [Ai, aI, cond_false]
      rw [aA (by rfl)]
      rfl
end Go.Dec
namespace Go.Dec
end Go.Dec
namespace Go.Dec
section
variable {ρ : Type} {s r : List UInt8}
end
abbrev StT : Type := List Nd × Int × List Bool × Int × Int × Unit
section
variable {n : Nat} {s r : List UInt8} {b : Nat} {en : List Bool} {l : List Nd}
def Ni (r : List UInt8) : Option (Int × Int × List UInt8) :=
 match mZ r with
 | (none, _) => none
 | (some lo, r1) =>
  bif [44].isPrefixOf r1 then
   match mZ (r1.drop 1) with
   | (none, r2) => bif [92, 125].isPrefixOf r2 && decide (lo <= 255) then some ((lo : Int), -1, r2.drop 2) else none
   | (some hi, r2) => bif [92, 125].isPrefixOf r2 && decide (lo <= 255) && decide (hi <= 255) && decide (lo <= hi) && decide (1 <= hi) then some ((lo : Int), (hi : Int), r2.drop 2) else none
  else bif [92, 125].isPrefixOf r1 && decide (lo <= 255) && decide (1 <= lo) then some ((lo : Int), (lo : Int), r1.drop 2) else none
theorem zDx (t : Pt) : pI t r b en = bif [42].isPrefixOf r then xM t 0 (-1) (r.drop 1) b en
  else bif [92, 123].isPrefixOf r then match Ni (r.drop 2) with
   | none => .er 43 r.length
   | some (lo, hi, r2) => xM t lo hi r2 b en
  else .ok t r b en := by
 unfold pI Ni
 cases [42].isPrefixOf r
 ·simp only [cond_false]
  cases [92, 123].isPrefixOf r
  ·rfl
  ·simp only [cond_true]
   cases mZ (r.drop 2) with
   | mk lo r1 =>
    cases lo with
    | none => rfl
    | some lo =>
     simp only
     cases [44].isPrefixOf r1
     ·simp only [cond_false]
      cases [92, 125].isPrefixOf r1 && decide (lo <= 255) && decide (1 <= lo) <;> rfl
     ·simp only [cond_true]
      cases mZ (r1.drop 1) with
      | mk hi r2 =>
       cases hi with
       | none => simp only; cases [92, 125].isPrefixOf r2 && decide (lo <= 255) <;> rfl
       | some hi => simp only; cases [92, 125].isPrefixOf r2 && decide (lo <= 255) && decide (hi <= 255) && decide (lo <= hi) && decide (1 <= hi) <;> rfl
 ·rfl
end
end Go.Dec
