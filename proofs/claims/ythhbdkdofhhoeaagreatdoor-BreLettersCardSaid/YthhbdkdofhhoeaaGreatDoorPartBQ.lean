/- Part of a proof over this seat: a library of my own, and what it says of this seat. No statement is proved here. -/
import Derived.Test.YthhbdkdofhhoeaaGreatDoorPartBP
import Derived.Test.YthhbdkdofhhoeaaGreatDoorPartBO
namespace Go.Dec
def zTk (lo hi : Int) : List UInt8 :=
 bif hi == -1 then (bif lo == 0 then [42] else [92, 123] ++ nJ lo ++ [44, 92, 125])
 else bif hi == lo then [92, 123] ++ nJ lo ++ [92, 125] else [92, 123] ++ nJ lo ++ [44] ++ nJ hi ++ [92, 125]
def Np : Pt -> List UInt8
 | .empty => []
 | .bytes p => zUx p
 | .bol => [94]
 | .eol => [36]
 | .cat a b => Np a ++ Np b
 | .alt _ _ => [124]
 | .times a lo hi => Np a ++ zTk lo hi
 | .group a _ => [92, 40] ++ Np a ++ [92, 41]
 | .ref m => [92] ++ nJ (m : Int)
section
variable {n : Nat} {l : List Nd}
end
end Go.Dec
namespace Go.Dec
section
variable {n : Nat} {l : List Nd}
end
end Go.Dec
namespace Go.Dec
theorem zLr : oI 200000 () = some true := by decide +kernel
end Go.Dec
namespace Go.Dec
def BK (first : Bool) (acc : Nat -> Bool) (r : List UInt8) (S : Nat -> Bool) (k : Nat) : Prop :=
 ∃ x, (∀ f, r.length < f -> vG f first acc r = some (x, k)) ∧ ∀ j, j < 256 -> x j = (acc j || S j)
theorem BK.end {acc : Nat -> Bool} {r : List UInt8} : BK false acc (93 :: r) (fun _ => false) 1 := by
 refine ⟨acc, fun f hf => ?_, fun j _ => by simp⟩
 obtain ⟨f, rfl⟩ : ∃ k, f = k + 1 := ⟨f - 1, by simp at hf; omega⟩
 rfl
theorem BK.step {first : Bool} {acc p S T : Nat -> Bool} {r r' : List UInt8} {k1 k : Nat} (hno : ([93].isPrefixOf r && !first) = false) (hp : Al first r = some (p, k1)) (hr : r.drop k1 = r') (h : BK false (fun j => acc j || p j) r' S k) (hT : ∀ j, j < 256 -> T j = (p j || S j)) : BK first acc r T (k1 + k) := by
 obtain ⟨x, h1, h2⟩ := h
 have hl := Nc hp
 refine ⟨x, fun f hf => ?_, fun j hj => ?_⟩
 ·obtain ⟨f, rfl⟩ : ∃ k, f = k + 1 := ⟨f - 1, by omega⟩
  unfold vG
  rw [hno, hp]
  simp only [cond_false]
  rw [hr, h1 f (by rw [<- hr, List.length_drop]; omega)]
 ·rw [h2 j hj, hT j hj, Bool.or_assoc]
def t5 (r : List UInt8) : List UInt8 := 93 :: r
def t4 (p : Nat -> Bool) (r : List UInt8) : List UInt8 := (bif p 45 then [45] else []) ++ t5 r
def t3 (p : Nat -> Bool) (r : List UInt8) : List UInt8 := (bif p 94 then [94] else []) ++ t4 p r
def t2 (p : Nat -> Bool) (r : List UInt8) : List UInt8 := (bif p 92 then [92] else []) ++ t3 p r
def t1 (p : Nat -> Bool) (r : List UInt8) : List UInt8 := (bif p 91 then [91] else []) ++ t2 p r
def t0 (p : Nat -> Bool) (r : List UInt8) : List UInt8 := (bif p 10 then [92, 110] else []) ++ t1 p r
theorem zWg {p : Nat -> Bool} {r : List UInt8} : r.length <= (t4 p r).length := by unfold t4 t5; simp; omega
theorem zWh {p : Nat -> Bool} {r : List UInt8} : r.length <= (t3 p r).length := by unfold t3; have := @zWg p r; simp; omega
theorem len2 {p : Nat -> Bool} {r : List UInt8} : r.length <= (t2 p r).length := by unfold t2; have := @zWh p r; simp; omega
theorem len1 {p : Nat -> Bool} {r : List UInt8} : r.length <= (t1 p r).length := by unfold t1; have := @len2 p r; simp; omega
theorem zVd {p : Nat -> Bool} {r : List UInt8} : r.length <= (t0 p r).length := by unfold t0; have := @len1 p r; simp; omega
end Go.Dec
namespace Go.Dec
section
variable {row : List UInt8 -> Nat -> List Bool -> Res (Option Pt)} {first : Bool} {b : Nat} {en : List Bool}
end
end Go.Dec
namespace Go.Dec
def flat (ts : List Pt) : List UInt8 := ts.flatMap Np
end Go.Dec
namespace Go.Dec
theorem zJr {s : List UInt8} (h : s ≠ []) : Cm s = match fA 11 s 0 mF with
  | .er e k => .inr (e, s.length - k)
  | .ok t r _ _ =>
   match r with
   | [] => match t with
    | none => .inr (41, s.length)
    | some t => bif decide (t.sz > 120) then .inr (2, 0) else .inl t
   | _ => .inr (41, s.length - r.length) := by
 cases s with
 | nil => exact absurd rfl h
 | cons c s => rfl
end Go.Dec
namespace Go.Dec
def xS (c : UInt8) : List UInt8 := [91] ++ tJ [c] ++ [93]
theorem zQv : ((List.range 256).all fun i => yP 199999 [UInt8.ofNat i] == some (tJ [UInt8.ofNat i])) = true := by decide +kernel
theorem zQw (c : UInt8) : yP 199999 [c] = some (tJ [c]) := by
 have := Cg zQv c.toNat_lt
 rwa [beq_iff_eq, zAw] at this
theorem Nq (c : UInt8) : mE (gV c) = [c] := by
 have : ((List.range 256).all fun i => mE (gV (UInt8.ofNat i)) == [UInt8.ofNat i]) = true := by decide +kernel
 have := Cg this c.toNat_lt
 rwa [beq_iff_eq, zAw] at this
theorem zQx (c : UInt8) : ofP [c] = gV c := by
 funext i
 simp only [ofP, gV, List.any_cons, List.any_nil, Bool.or_false]
 exact decide_eq_decide.2 ⟨fun h => h.symm, fun h => h.symm⟩
theorem zOj (c : UInt8) : sP (.bytes (gV c)) := ⟨by simp [Pt.sz], ⟨by simp [bY, Om], rfl, fun h => by simp [Pt.sz] at h⟩, rfl⟩
theorem zOk (c : UInt8) : nR 200000 [(1, (wd (gV c), (0, (0, (0, (0, (0, ())))))))] = some (xS c) := by
 unfold nR
 simp only
 have hm : rE 200000 ((Pt.bytes (gV c)).enc 0) = some true := by
  rcases zEm (n := 200000) (l := (Pt.bytes (gV c)).enc 0) (by omega) (zLn _ 0) with ⟨_, _, _, h3⟩ | ⟨h1, _⟩
  ·exact h3
  ·exact absurd rfl (h1 _ (zOj c))
 rw [show ([(1, (wd (gV c), (0, (0, (0, (0, (0, ())))))))] : List Nd) = (Pt.bytes (gV c)).enc 0 from rfl, hm]
 simp only [aI, Bool.not_true, bC]
 rw [show IntKind.wrap .i64 ((((Pt.bytes (gV c)).enc 0).length : Int) - 1) = 0 from rfl]
 have hu : wE 200000 ((Pt.bytes (gV c)).enc 0, 0) = qV 199999 (wE 199999) ((Pt.bytes (gV c)).enc 0, 0) := rfl
 rw [hu]
 unfold qV
 simp only
 rw [aC (by rfl)]
 have hg : aQ (Ty.dflt aB) ((Pt.bytes (gV c)).enc 0) 0 = ((1, wd (gV c), 0, 0, 0, 0, 0, ()) : Nd) := rfl
 rw [hg, aA (by rfl), aD (by rfl), zAc (by omega)]
 simp only [aI]
 rw [Xo (by omega), Nq]
 simp only [aI]
 rw [zQw]
 simp only [aI]
 rw [aC (by simp [aG, xS, tJ]), aC (by simp [aG, xS, tJ])]
 rfl
def Iq : List UInt8 -> List UInt8
 | [] => []
 | [c] => xS c
 | c :: d :: r => [38] ++ xS c ++ Iq (d :: r)
def nW (c : UInt8) : Bool := (decide (48 <= c.toNat) && decide (c.toNat <= 57)) || (decide (97 <= c.toNat) && decide (c.toNat <= 122))
theorem Ir (c : UInt8) : (xS c).length = 4 := rfl
theorem zOl (c : UInt8) : [91] ++ (xS c).drop (1 : Int).toNat = xS c := rfl
theorem zLs {s want : List UInt8} {i : Nat} {c : UInt8} {r : List UInt8} (hs : s.length <= 40) (hw : want.length <= 5 * i) (hd : s.drop i = c :: r) {g0 : List UInt8 × List UInt8 × Int × Unit -> Option Bool} :
    (chk ((decide (0 <= IntKind.wrap .i64 ((i : Int) + 1)) && decide (IntKind.wrap .i64 ((i : Int) + 1) <= (s.length : Int)) && (decide (0 <= (i : Int)) && decide ((i : Int) <= IntKind.wrap .i64 ((i : Int) + 1))))) (
       ob (lZ 200000 ((s.take (IntKind.wrap .i64 ((i : Int) + 1)).toNat).drop (i : Int).toNat)) fun y37 =>
       ob (lF 200000 y37) fun y38 =>
       ob (nR 200000 [(1, (y38, (0, (0, (0, (0, (0, ())))))))]) fun y39 =>
       chk ((decide (0 <= (1 : Int)) && decide ((1 : Int) <= (y39.length : Int)))) (
        chk (decide ([91].length + (y39.drop (1 : Int).toNat).length <= aG)) (
         br (decide ((i : Int) < IntKind.wrap .i64 ((s.length : Int) - 1))) (
          chk (decide ([38].length + ([91] ++ (y39.drop (1 : Int).toNat) : List UInt8).length <= aG)) (
           chk (decide (want.length + ([38] ++ ([91] ++ (y39.drop (1 : Int).toNat)) : List UInt8).length <= aG)) (
            g0 (s, want ++ ([38] ++ ([91] ++ (y39.drop (1 : Int).toNat))), IntKind.wrap .i64 ((i : Int) + 1), ())))) (
          chk (decide (want.length + ([91] ++ (y39.drop (1 : Int).toNat) : List UInt8).length <= aG)) (
           g0 (s, want ++ ([91] ++ (y39.drop (1 : Int).toNat)), IntKind.wrap .i64 ((i : Int) + 1), ())))))) : Option Bool)
      = g0 (s, want ++ (bif r.isEmpty then xS c else [38] ++ xS c), ((i + 1 : Nat) : Int), ()) := by
  have hlen : s.length - i = r.length + 1 := by rw [<- List.length_drop, hd]; rfl
  have hw1 : IntKind.wrap .i64 ((i : Int) + 1) = ((i + 1 : Nat) : Int) := by rw [bG (by omega) (by omega)]; rfl
  have hsl : (s.take (i + 1)).drop i = [c] := by
    rw [List.drop_take, hd, show i + 1 - i = 1 by omega]; rfl
  rw [hw1, aC (by simp; omega), Int.toNat_natCast, Int.toNat_natCast, hsl, Qg _ (by simp) (by simp), zQx]
  simp only [aI]
  rw [Xp (by omega)]
  simp only [aI]
  rw [zOk]
  simp only [aI]
  rw [aC (by rfl), aC (by simp [aG, xS, tJ]), zOl, bG (by omega) (by omega)]
  cases r with
  | nil =>
    simp only [List.length_nil] at hlen
    rw [aA (by simp; omega), aC (by simp [aG, Ir]; omega)]; rfl
  | cons d r =>
    simp only [List.length_cons] at hlen
    rw [aD (by simp; omega), aC (by simp [aG, Ir]), aC (by simp [aG, Ir]; omega)]; rfl
def zOm (s want : List UInt8) : Option Bool :=
  ob (jU 200000 s) fun y45 =>
  br (y45.2.2 == 0) (
   ob (rZ 200000 y45.1) fun y46 =>
   some (y46 == want)) (
   some false)
theorem zEn {s : List UInt8} (hs : s.length <= 40) : ∀ (r : List UInt8) (i m : Nat) (want : List UInt8), s.drop i = r -> i <= s.length -> want.length <= 5 * i -> r.length < m ->
  fix (gT 200000) m (s, want, (i : Int), ()) = bif r.all nW then zOm s (want ++ Iq r) else some true
 | [], i, m, want, hd, hi, hw, hm => by
  rw [dM (by omega), gT]
  simp only
  have hlen : s.length - i = 0 := by rw [<- List.length_drop, hd]; rfl
  rw [aA (by simp; omega)]
  simp only [Iq, List.append_nil, List.all_nil, cond_true]; rfl
 | c :: r, i, m, want, hd, hi, hw, hm => by
  rw [dM (by omega), gT]
  simp only
  have hlen : s.length - i = r.length + 1 := by rw [<- List.length_drop, hd]; rfl
  simp only [List.length_cons] at hm
  have hib : inB (i : Int) s.length = true := iN (by omega)
  have hg : aQ 0 s (i : Int) = c := by
   have := Ak (d := 0) (s := s) (i := i) (j := 0) (c := c) (by rw [hd]; rfl)
   simpa using this
  have hstep : fix (gT 200000) (m - 1) (s, want ++ (bif r.isEmpty then xS c else [38] ++ xS c), ((i + 1 : Nat) : Int), ()) = bif r.all nW then zOm s (want ++ Iq (c :: r)) else some true := by
   have hd2 : s.drop (i + 1) = r := by rw [<- List.drop_drop, hd]; rfl
   rw [zEn hs r (i + 1) (m - 1) _ hd2 (by omega) (by cases r.isEmpty <;> simp [Ir] <;> omega) (by omega)]
   cases r with
   | nil => simp only [List.isEmpty_nil, cond_true, Iq, List.append_nil]
   | cons d r => simp only [List.isEmpty_cons, cond_false, Iq, List.append_assoc]
  rw [aD (by simp; omega), aC hib, hg, aC hib, aC hib, zLs hs hw hd, hstep]
  simp only [List.all_cons]
  by_cases h97 : c.toNat < 97
  ·rw [aD (by simp; omega)]
   by_cases h48 : c.toNat < 48
   ·rw [aD (by simp; omega), show nW c = false by simp [nW]; omega]; rfl
   ·rw [aA (by simp; omega)]
    by_cases h57 : c.toNat > 57
    ·rw [aD (by simp; omega), show nW c = false by simp [nW]; omega]; rfl
    ·rw [aA (by simp; omega), show nW c = true by simp [nW]; omega]; rfl
  ·rw [aA (by simp; omega)]
   by_cases h122 : c.toNat > 122
   ·rw [aD (by simp; omega), aA (by simp; omega), aD (by simp; omega), aC hib, show nW c = false by simp [nW]; omega]; rfl
   ·rw [aA (by simp; omega), aC hib, show nW c = true by simp [nW]; omega]; rfl
theorem Sc {c : UInt8} (h : nW c = true) : c ≠ 46 ∧ c ≠ 91 ∧ c ≠ 92 ∧ c ≠ 36 ∧ c ≠ 94 ∧ c ≠ 42 := by
 simp only [nW, Bool.or_eq_true, Bool.and_eq_true, decide_eq_true_eq] at h
 refine ⟨?_, ?_, ?_, ?_, ?_, ?_⟩ <;> (rintro rfl; simp at h)
theorem Zj {row : List UInt8 -> Nat -> List Bool -> Res (Option Pt)} {b : Nat} {en : List Bool} : ∀ (r : List UInt8) (f : Nat) (first : Bool) (acc : List Pt), r.all nW = true -> r.length < f -> gW row f first r b en acc = .ok (acc ++ r.map fun c => Pt.bytes (gV c)) [] b en
 | [], f, first, acc, _, hf => by
  obtain ⟨f, rfl⟩ : ∃ j, f = j + 1 := ⟨f - 1, by omega⟩
  unfold gW
  rw [show iZ [] = true from rfl, List.map_nil, List.append_nil]; rfl
 | c :: r, f, first, acc, ha, hf => by
  obtain ⟨f, rfl⟩ : ∃ j, f = j + 1 := ⟨f - 1, by omega⟩
  simp only [List.all_cons, Bool.and_eq_true] at ha
  obtain ⟨n1, n2, n3, n4, n5, n6⟩ := Sc ha.1
  have hnx : [42].isPrefixOf r = false ∧ [92, 123].isPrefixOf r = false := by
   cases r with
   | nil => exact ⟨rfl, rfl⟩
   | cons d r =>
    simp only [List.all_cons, Bool.and_eq_true] at ha
    obtain ⟨_, _, m3, _, _, m6⟩ := Sc ha.2.1
    exact ⟨by simp [List.isPrefixOf, Ne.symm m6], by simp [List.isPrefixOf, Ne.symm m3]⟩
  have hat : mP row first (c :: r) b en = .ok (.bytes (gV c)) r b en := by
   unfold mP
   simp only
   rw [beq_false_of_ne n1, beq_false_of_ne n2, beq_false_of_ne n3]; rfl
  unfold gW
  rw [show iZ (c :: r) = false by simp [iZ, List.isPrefixOf, Ne.symm n3], show [36].isPrefixOf (c :: r) = false by simp [List.isPrefixOf, Ne.symm n4], hat]
  simp only [cond_false, Bool.false_and]
  rw [zDx, hnx.1, hnx.2]
  simp only [cond_false]
  rw [Zj r f false (acc ++ [Pt.bytes (gV c)]) ha.2 (by simp at hf; omega)]
  simp
theorem zGu : ∀ (r : List UInt8), r ≠ [] -> ∃ t, kJ (r.map fun c => Pt.bytes (gV c)) = some t ∧ dQ t = Iq r ∧ t.sz + 1 = 2 * r.length
 | [], h => absurd rfl h
 | [c], _ => ⟨.bytes (gV c), rfl, by simp only [dQ, Nq]; rfl, rfl⟩
 | c :: d :: r, _ => by
  obtain ⟨t, h1, h2, h3⟩ := zGu (d :: r) (by simp)
  refine ⟨.cat (.bytes (gV c)) t, ?_, ?_, ?_⟩
  ·rw [List.map_cons]
   unfold kJ
   rw [h1]
  ·simp only [dQ, Nq, Iq, <- h2]; rfl
  ·simp only [Pt.sz, List.length_cons] at h3 ⊢; omega
theorem zLt {s : List UInt8} (hne : s ≠ []) (hl : s.length <= 40) (ha : s.all nW = true) : ∃ t, Cm s = .inl t ∧ dQ t = Iq s := by
 obtain ⟨t, h1, h2, h3⟩ := zGu s hne
 refine ⟨t, ?_, h2⟩
 rw [zJr hne]
 have h94 : [94].isPrefixOf s = false := by
  cases s with
  | nil => rfl
  | cons c r =>
   simp only [List.all_cons, Bool.and_eq_true] at ha
   simp [List.isPrefixOf, Ne.symm (Sc ha.1).2.2.2.2.1]
 have hr : fA 11 s 0 mF = .ok (some t) [] 0 mF := by
  unfold fA
  simp only
  rw [h94]
  simp only [cond_false]
  rw [Zj s _ _ _ ha (by omega), List.nil_append]
  simp only [h1]
 rw [hr]
 simp only
 rw [decide_eq_false (by omega)]; rfl
theorem Dt (s : List UInt8) (_ : Tn [.str] s) : vB 200000 s = some true := by
 unfold vB
 simp only
 rw [zLr]
 by_cases h : s.length > 40
 ·rw [aD (by simp; omega)]; rfl
 ·rw [aA (by simp; omega)]
  by_cases hne : s = []
  ·subst hne; rfl
  rw [aA (by simpa using hne)]
  simp only [aI, Bool.not_true, bC]
  have hL := zEn (s := s) (by omega) s 0 200000 [] rfl (by omega) (by simp) (by omega)
  rw [show ((0 : Nat) : Int) = 0 from rfl] at hL
  rw [hL]
  cases ha : s.all nW
  ·rfl
  ·obtain ⟨t, h1, h2⟩ := zLt hne (by omega) ha
   simp only [cond_true, List.nil_append]
   unfold zOm
   rw [zDv (by omega) (by omega), h1]
   simp only [aI, zLk]
   rw [aD (by rfl), zJo (by omega) (zFl h1), aI, h2]
   simp
end Go.Dec
