/- Part of a proof over this seat: a library of my own, and what it says of this seat. No statement is proved here. -/
import Derived.Test.YthhbdkdofhhoeaaGreatDoorPartBP
namespace Go.Dec
def BF (lo hi : Int) : List UInt8 :=
 bif hi == -1 then (bif lo == 0 then [42] else [92, 123] ++ dH lo ++ [44, 92, 125])
 else bif hi == lo then [92, 123] ++ dH lo ++ [92, 125] else [92, 123] ++ dH lo ++ [44] ++ dH hi ++ [92, 125]
def cu : Pt -> List UInt8
 | .empty => []
 | .bytes p => uR p
 | .bol => [94]
 | .eol => [36]
 | .cat a b => cu a ++ cu b
 | .alt _ _ => [124]
 | .times a lo hi => cu a ++ BF lo hi
 | .group a _ => [92, 40] ++ cu a ++ [92, 41]
 | .ref m => [92] ++ dH (m : Int)
theorem ZQ (p : Nat -> Bool) : (gX (dK p) 257 0).length <= 256 := by
 rw [<- Iw (dK p) 256 0 257 (by omega) (by omega)]
 have h1 := EY (iA (gG (dK p) 0))
 rw [Aa] at h1
 have := Pp (dK p)
 omega
theorem Yh (p : Nat -> Bool) : (uR p).length <= 270 := by
 unfold uR
 split
 ·simp
 ·unfold I9
  rename_i c _
  cases c == 10 <;> cases l5.contains c <;> simp
 ·have hl : (EX p).length <= 270 := by
   have := ZQ p
   simp only [EX, EW, yA, List.length_append]
   cases p 93 <;> cases p 10 <;> cases p 91 <;> cases p 92 <;> cases p 94 <;> cases p 45 <;> simp <;> omega
  cases (aU p).length == 256
  ·cases aU p == [45, 94]
   ·exact hl
   ·simp
  ·simp
theorem M5 (lo hi : Int) : (BF lo hi).length <= 60 := by
 have h1 := @iL lo
 have h2 := @iL hi
 unfold BF
 cases hi == -1 <;> cases lo == 0 <;> cases hi == lo <;> simp <;> omega
theorem fQ : ∀ t : Pt, (cu t).length <= 300 * t.sz
 | .empty | .bol | .eol => by simp [cu, Pt.sz]
 | .bytes p => by have := Yh p; simp [cu, Pt.sz]; omega
 | .cat a b => by have := fQ a; have := fQ b; simp [cu, Pt.sz]; omega
 | .alt a b => by simp [cu, Pt.sz]; omega
 | .times a lo hi => by have := fQ a; have := M5 lo hi; simp [cu, Pt.sz]; omega
 | .group a _ => by have := fQ a; simp [cu, Pt.sz]; omega
 | .ref m => by have := @iL (m : Int); simp [cu, Pt.sz]; omega
section
variable {n : Nat} {l : List Nd}
theorem count_eq {lo hi : Int} {a b c : Int} {w : List Int} (h1 : -1 <= lo) (h2 : lo < 1000000) (h3 : -1 <= hi) (h4 : hi < 1000000) : yJ n (c, w, a, b, lo, hi, 0, ()) = some (BF lo hi) := by
 unfold yJ BF
 simp only
 have l1 := @iL lo
 have l2 := @iL hi
 rw [Ai h1 h2, aA, Ai h3 h4, aA]
 cases hi == -1
 ·simp only [aM, cond_false]
  cases hi == lo
  ·rw [aM, ah (by simp [av]; omega), ah (by simp [av]; omega), ah (by simp [av]; omega), ah (by simp [av]; omega)]; rfl
  ·rw [aR, ah (by simp [av]; omega), ah (by simp [av]; omega)]; rfl
 ·simp only [aR, cond_true]
  cases lo == 0
  ·rw [aM, ah (by simp [av]; omega), ah (by simp [av]; omega)]; rfl
  ·rfl
theorem ZR {i : Nat} {row : List (List UInt8)} (h : i < row.length) : (inB (i : Int) row.length && decide (0 + row.length <= row.length)) = true := by
 rw [dM h]; simp
theorem Qg {row : List (List UInt8)} {i : Nat} {x : List UInt8} (h : i < row.length) : (row.set i x).getD i [] = x := by
 rw [List.getD_eq_getElem?_getD, List.getElem?_set_self h]; rfl
theorem Ov {row : List (List UInt8)} {i j : Nat} {x : List UInt8} (h : i ≠ j) : (row.set i x).getD j [] = row.getD j [] := by
 rw [List.getD_eq_getElem?_getD, List.getElem?_set_ne h, <- List.getD_eq_getElem?_getD]
def Ow (row : List (List UInt8)) (o : Nat) : Pt -> Prop
 | .cat a b => row.getD (o + a.sz - 1) [] = cu a ∧ row.getD (o + a.sz + b.sz - 1) [] = cu b
 | .times a _ _ => row.getD (o + a.sz - 1) [] = cu a
 | .group a _ => row.getD (o + a.sz - 1) [] = cu a
 | _ => True
theorem WW {t : Pt} {o k m : Nat} {row : List (List UInt8)} (h : At l o t) (hl : l.length < 1000000) (hm : t.sz < m) (hk : k + 1 = t.sz) (hr : row.length = l.length) (hn : 400 <= n) (hf : bD t = true) (hsz : t.sz <= 1000)
    (hc : Ow row o t) :
    ∃ row' : List (List UInt8), fix (cO n) (m - k) (l, l, (l.length : Int), ((o + k : Nat) : Int), row, ()) = fix (cO n) (m - t.sz) (l, l, (l.length : Int), ((o + t.sz : Nat) : Int), row', ()) ∧ row'.length = row.length ∧ (∀ j, j ≠ o + k -> row'.getD j [] = row.getD j []) ∧ (t.kind ≠ 0 -> row'.getD (o + k) [] = cu t) ∧ (t.kind = 0 -> row'.getD (o + k) [] = row.getD (o + k) []) := by
  have hlen := h.len
  have hnd := h.node
  rw [show o + t.sz - 1 = o + k by omega] at hnd
  have hi : o + k < l.length := by omega
  have hir : o + k < row.length := by omega
  have hget : ∀ d, aG d l ((o + k : Nat) : Int) = (t.nv o).node := by
    intro d
    rw [eT hi]
    rw [List.getElem?_eq_getElem hi] at hnd
    exact Option.some.inj hnd
  have hw : IntKind.wrap .i64 (((o + k : Nat) : Int) + 1) = ((o + t.sz : Nat) : Int) := by rw [aK (by omega) (by omega)]; omega
  have hpl := fQ t
  have hput : ∀ x : List UInt8, chk ((inB ((o + k : Nat) : Int) row.length && decide (0 + row.length <= row.length))) (
          chk (decide (0 + ((o + k : Nat) : Int).toNat < row.length)) (
            fix (cO n) (m - k - 1) (l, l, (l.length : Int), IntKind.wrap .i64 (((o + k : Nat) : Int) + 1), row.set (0 + ((o + k : Nat) : Int).toNat) x, ()))) = fix (cO n) (m - t.sz) (l, l, (l.length : Int), ((o + t.sz : Nat) : Int), row.set (o + k) x, ()) := by
    intro x
    rw [ah (ZR hir), Int.toNat_natCast, Nat.zero_add, ah (by simp; omega), hw, show m - k - 1 = m - t.sz by omega]
  have fin : ∀ x : List UInt8, x = cu t -> t.kind ≠ 0 -> ∃ row' : List (List UInt8), fix (cO n) (m - t.sz) (l, l, (l.length : Int), ((o + t.sz : Nat) : Int), row.set (o + k) x, ()) = fix (cO n) (m - t.sz) (l, l, (l.length : Int), ((o + t.sz : Nat) : Int), row', ()) ∧ row'.length = row.length ∧ (∀ j, j ≠ o + k -> row'.getD j [] = row.getD j []) ∧ (t.kind ≠ 0 -> row'.getD (o + k) [] = cu t) ∧ (t.kind = 0 -> row'.getD (o + k) [] = row.getD (o + k) []) := by
    intro x hx hk0
    exact ⟨_, rfl, by simp, fun j hj => Ov (by omega), fun _ => by rw [Qg hir, hx], fun h0 => absurd h0 hk0⟩
  have hrd : ∀ (x : Int) (j : Nat), x = (j : Int) -> j < row.length -> (inB x row.length && decide (0 + row.length <= row.length)) = true ∧ 0 + x.toNat < row.length ∧ row.getD (0 + x.toNat) (Ty.dflt .str) = row.getD j [] := by
    intro x j hx hj
    subst hx
    exact ⟨ZR hj, by omega, by rw [Int.toNat_natCast, Nat.zero_add]; rfl⟩
  rw [aX (by omega), cO]
  simp only
  rw [au (by simp; omega), ah (dM hi), hget]
  unfold Ow at hc
  cases t with
  | empty =>
    simp only [Pt.nv, NV.node]
    rw [aj (by rfl), aj (by rfl), aj (by rfl), aj (by rfl), aj (by rfl), aj (by rfl), aj (by rfl), aj (by rfl), hw, show m - k - 1 = m - Pt.empty.sz by omega]
    exact ⟨row, rfl, rfl, fun _ _ => rfl, fun h => absurd rfl h, fun _ => rfl⟩
  | bytes p =>
    simp only [Pt.nv, NV.node]
    rw [au (by rfl), Uf hn, aA, hput]
    exact fin _ rfl (by simp [Pt.kind])
  | bol =>
    simp only [Pt.nv, NV.node]
    rw [aj (by rfl), au (by rfl), hput]
    exact fin _ rfl (by simp [Pt.kind])
  | eol =>
    simp only [Pt.nv, NV.node]
    rw [aj (by rfl), aj (by rfl), au (by rfl), hput]
    exact fin _ rfl (by simp [Pt.kind])
  | cat a b =>
    simp only [Pt.nv, NV.node]
    have pa := a.bT
    have pb := b.bT
    have la := fQ a
    have lb := fQ b
    simp only [Pt.sz] at hlen hk hsz
    have ta : a.top o = ((o + a.sz - 1 : Nat) : Int) := by unfold Pt.top; omega
    have tb : b.top (o + a.sz) = ((o + a.sz + b.sz - 1 : Nat) : Int) := by unfold Pt.top; omega
    obtain ⟨a1, a2, a3⟩ := hrd _ _ ta (by omega)
    obtain ⟨b1, b2, b3⟩ := hrd _ _ tb (by omega)
    rw [hc.1] at a3
    rw [hc.2] at b3
    rw [aj (by rfl), aj (by rfl), aj (by rfl), au (by rfl), ah a1, ah (by exact decide_eq_true a2), ah b1, ah (by exact decide_eq_true b2), ah (by exact decide_eq_true (by rw [a3, b3]; unfold av; omega)), hput]
    exact fin _ (by rw [a3, b3]; rfl) (by simp [Pt.kind])
  | alt a b =>
    simp only [Pt.nv, NV.node]
    rw [aj (by rfl), aj (by rfl), aj (by rfl), aj (by rfl), au (by rfl), hput]
    exact fin _ rfl (by simp [Pt.kind])
  | times a lo hi =>
    simp only [Pt.nv, NV.node]
    have pa := a.bT
    have la := fQ a
    have lc := M5 lo hi
    simp only [Pt.sz] at hlen hk hsz
    simp only [bD, fB, Bool.and_eq_true, Bool.or_eq_true, decide_eq_true_eq] at hf
    have ta : a.top o = ((o + a.sz - 1 : Nat) : Int) := by unfold Pt.top; omega
    obtain ⟨a1, a2, a3⟩ := hrd _ _ ta (by omega)
    rw [hc] at a3
    rw [aj (by rfl), aj (by rfl), aj (by rfl), aj (by rfl), aj (by rfl), au (by rfl), ah a1, ah (by exact decide_eq_true a2), count_eq (by omega) (by omega) (by omega) (by omega), aA, ah (by exact decide_eq_true (by rw [a3]; unfold av; omega)), hput]
    exact fin _ (by rw [a3]; rfl) (by simp [Pt.kind])
  | group a q =>
    simp only [Pt.nv, NV.node]
    have pa := a.bT
    have la := fQ a
    simp only [Pt.sz] at hlen hk hsz
    have ta : a.top o = ((o + a.sz - 1 : Nat) : Int) := by unfold Pt.top; omega
    obtain ⟨a1, a2, a3⟩ := hrd _ _ ta (by omega)
    rw [hc] at a3
    rw [aj (by rfl), aj (by rfl), aj (by rfl), aj (by rfl), aj (by rfl), aj (by rfl), au (by rfl), ah a1, ah (by exact decide_eq_true a2), ah (by exact decide_eq_true (by rw [a3]; simp only [List.length_cons, List.length_nil]; unfold av; omega)), ah (by exact decide_eq_true (by rw [a3]; simp only [List.length_append, List.length_cons, List.length_nil]; unfold av; omega)), hput]
    exact fin _ (by rw [a3]; rfl) (by simp [Pt.kind])
  | ref q =>
    simp only [Pt.nv, NV.node]
    simp only [bD, Bool.and_eq_true, decide_eq_true_eq] at hf
    have li := @iL (q : Int)
    rw [aj (by rfl), aj (by rfl), aj (by rfl), aj (by rfl), aj (by rfl), aj (by rfl), aj (by rfl), au (by rfl), Ai (by omega) (by omega), aA, ah (by simp [av]; omega), hput]
    exact fin _ rfl (by simp [Pt.kind])
end
end Go.Dec
namespace Go.Dec
section
variable {n : Nat} {l : List Nd}
theorem WX (hl : l.length <= 1000) (hn : 2000 <= n) : ∀ (t : Pt) (o m : Nat) (row : List (List UInt8)), At l o t -> bD t = true -> t.sz < m -> row.length = l.length -> (∀ j, o <= j -> row.getD j [] = []) ->
  ∃ row' : List (List UInt8), fix (cO n) m (l, l, (l.length : Int), (o : Int), row, ()) = fix (cO n) (m - t.sz) (l, l, (l.length : Int), ((o + t.sz : Nat) : Int), row', ()) ∧ row'.length = row.length ∧ (∀ j, j < o -> row'.getD j [] = row.getD j []) ∧ (∀ j, o + t.sz <= j -> row'.getD j [] = []) ∧ row'.getD (o + t.sz - 1) [] = cu t := by
 have fin : ∀ (t : Pt) (o k m : Nat) (row : List (List UInt8)), At l o t -> bD t = true -> t.sz < m -> k + 1 = t.sz -> row.length = l.length -> (∀ j, o + k <= j -> row.getD j [] = []) ->
   Ow row o t ->
   ∃ row' : List (List UInt8), fix (cO n) (m - k) (l, l, (l.length : Int), ((o + k : Nat) : Int), row, ()) = fix (cO n) (m - t.sz) (l, l, (l.length : Int), ((o + t.sz : Nat) : Int), row', ()) ∧ row'.length = row.length ∧ (∀ j, j < o + k -> row'.getD j [] = row.getD j []) ∧ (∀ j, o + t.sz <= j -> row'.getD j [] = []) ∧ row'.getD (o + t.sz - 1) [] = cu t := by
  intro t o k m row h hf hm hk hr hz hc
  have hlen := h.len
  obtain ⟨row', e1, e2, e3, e4, e5⟩ := WW (n := n) h (by omega) hm hk hr (by omega) hf (by omega) hc
  refine ⟨row', e1, e2, fun j hj => e3 j (by omega), fun j hj => by rw [e3 j (by omega)]; exact hz j (by omega), ?_⟩
  rw [show o + t.sz - 1 = o + k by omega]
  by_cases h0 : t.kind = 0
  ·rw [e5 h0, hz _ (Nat.le_refl _)]
   cases t <;> simp [Pt.kind] at h0
   rfl
  ·exact e4 h0
 have leaf : ∀ t : Pt, t.sz = 1 -> (match t with
   | .cat a b => False
   | .times a _ _ => False
   | .group a _ => False
   | _ => True) -> ∀ (o m : Nat) (row : List (List UInt8)), At l o t -> bD t = true -> t.sz < m -> row.length = l.length -> (∀ j, o <= j -> row.getD j [] = []) ->
   ∃ row' : List (List UInt8), fix (cO n) m (l, l, (l.length : Int), (o : Int), row, ()) = fix (cO n) (m - t.sz) (l, l, (l.length : Int), ((o + t.sz : Nat) : Int), row', ()) ∧ row'.length = row.length ∧ (∀ j, j < o -> row'.getD j [] = row.getD j []) ∧ (∀ j, o + t.sz <= j -> row'.getD j [] = []) ∧ row'.getD (o + t.sz - 1) [] = cu t := by
  intro t h1 hk o m row h hf hm hr hz
  have := fin t o 0 m row h hf hm (by omega) hr hz (by cases t <;> first | exact hk.elim | trivial)
  simpa using this
 intro t
 induction t with
 | empty => exact leaf .empty rfl trivial
 | bytes p => exact leaf (.bytes p) rfl trivial
 | bol => exact leaf .bol rfl trivial
 | eol => exact leaf .eol rfl trivial
 | ref k => exact leaf (.ref k) rfl trivial
 | cat a b iha ihb =>
  intro o m row h hf hm hr hz
  have hfa := hf
  simp only [bD, Bool.and_eq_true] at hfa
  have hsz : (Pt.cat a b).sz = a.sz + b.sz + 1 := rfl
  have pa := a.bT
  have pb := b.bT
  obtain ⟨r1, e1, e2, e3, e4, e5⟩ := iha o m row h.zn.1 hfa.1 (by omega) hr hz
  obtain ⟨r2, f1, f2, f3, f4, f5⟩ := ihb (o + a.sz) (m - a.sz) r1 h.zn.2 hfa.2 (by omega) (by omega) e4
  have := fin (.cat a b) o (a.sz + b.sz) m r2 h hf hm (by omega) (by omega) (fun j hj => f4 j (by omega)) ⟨by rw [f3 _ (by omega)]; exact e5, f5⟩
  obtain ⟨r3, g1, g2, g3, g4, g5⟩ := this
  refine ⟨r3, ?_, by omega, fun j hj => by rw [g3 j (by omega), f3 j (by omega), e3 j hj], g4, g5⟩
  rw [e1, f1, <- g1, Nat.sub_sub, Nat.add_assoc]
 | alt a b iha ihb =>
  intro o m row h hf hm hr hz
  have hfa := hf
  simp only [bD, Bool.and_eq_true] at hfa
  have hsz : (Pt.alt a b).sz = a.sz + b.sz + 1 := rfl
  have pa := a.bT
  have pb := b.bT
  obtain ⟨r1, e1, e2, e3, e4, e5⟩ := iha o m row h.alt1.1 hfa.1 (by omega) hr hz
  obtain ⟨r2, f1, f2, f3, f4, f5⟩ := ihb (o + a.sz) (m - a.sz) r1 h.alt1.2 hfa.2 (by omega) (by omega) e4
  have := fin (.alt a b) o (a.sz + b.sz) m r2 h hf hm (by omega) (by omega) (fun j hj => f4 j (by omega)) trivial
  obtain ⟨r3, g1, g2, g3, g4, g5⟩ := this
  refine ⟨r3, ?_, by omega, fun j hj => by rw [g3 j (by omega), f3 j (by omega), e3 j hj], g4, g5⟩
  rw [e1, f1, <- g1, Nat.sub_sub, Nat.add_assoc]
 | times a lo hi iha =>
  intro o m row h hf hm hr hz
  have hfa := hf
  simp only [bD, Bool.and_eq_true] at hfa
  have hsz : (Pt.times a lo hi).sz = a.sz + 1 := rfl
  have pa := a.bT
  obtain ⟨r1, e1, e2, e3, e4, e5⟩ := iha o m row h.DW hfa.1 (by omega) hr hz
  obtain ⟨r3, g1, g2, g3, g4, g5⟩ := fin (.times a lo hi) o a.sz m r1 h hf hm (by omega) (by omega) (fun j hj => e4 j (by omega)) e5
  exact ⟨r3, by rw [e1, <- g1], by omega, fun j hj => by rw [g3 j (by omega), e3 j hj], g4, g5⟩
 | group a k iha =>
  intro o m row h hf hm hr hz
  have hfa := hf
  simp only [bD, Bool.and_eq_true] at hfa
  have hsz : (Pt.group a k).sz = a.sz + 1 := rfl
  have pa := a.bT
  obtain ⟨r1, e1, e2, e3, e4, e5⟩ := iha o m row h.DX hfa.1 (by omega) hr hz
  obtain ⟨r3, g1, g2, g3, g4, g5⟩ := fin (.group a k) o a.sz m r1 h hf hm (by omega) (by omega) (fun j hj => e4 j (by omega)) e5
  exact ⟨r3, by rw [e1, <- g1], by omega, fun j hj => by rw [g3 j (by omega), e3 j hj], g4, g5⟩
def M6 (t : Pt) : List UInt8 × Int :=
 match nM (cu t) with
 | .inr _ => ([], 1)
 | .inl u => bif bQ u == bQ t then (cu t, 0) else ([], 1)
theorem M7 {s : List UInt8} {e k : Nat} (h : nM s = .inr (e, k)) : e ≠ 0 := by
 have := WB s
 rw [h] at this
 omega
theorem Tm {t : Pt} (hn : 200000 <= n) (h : ou t) : o7 n (t.enc 0) = some (M6 t) := by
 unfold o7
 simp only
 rw [U7 (by omega) h]
 simp only [aA, Bool.not_true, aM]
 have hsz := h.1
 have htp := t.bT
 have hlen := t.aZ 0
 rw [ah (by rw [hlen]; simp [room]; omega), Int.toNat_natCast]
 obtain ⟨row', e1, e2, _, _, e5⟩ := WX (n := n) (l := t.enc 0) (by omega) (by omega) t 0 n (List.replicate (t.enc 0).length []) (At.self t) h.2.1.1 (by omega) (by simp) (fun j _ => by
  rw [List.getD_eq_getElem?_getD, List.getElem?_replicate]; split <;> rfl)
 rw [show ((0 : Nat) : Int) = 0 from rfl] at e1
 rw [e1, aX (by omega), cO]
 simp only
 rw [List.length_replicate] at e2
 have hv : IntKind.wrap .i64 (((t.enc 0).length : Int) - 1) = ((0 + t.sz - 1 : Nat) : Int) := by rw [aK (by omega) (by omega)]; omega
 rw [aj (by rw [hlen]; simp), hv, ah (ZR (by omega)), Int.toNat_natCast, Nat.zero_add, ah (by simp; omega), show Ty.dflt .str = ([] : List UInt8) from rfl]
 rw [show 0 + t.sz - 1 = t.sz - 1 by omega] at e5 ⊢
 rw [e5]
 have hpl := fQ t
 rw [SB (by omega) (by omega), aA]
 unfold M6
 cases hp : nM (cu t) with
 | inr x =>
  obtain ⟨e, k⟩ := x
  have := M7 hp
  simp only [DV]
  rw [au (by simp; omega)]
 | inl u =>
  simp only [DV]
  rw [aj (by rfl), z8 (by omega) (JM hp), aA, z8 (by omega) h, aA]
  cases bQ u == bQ t <;> rfl
end
end Go.Dec
namespace Go.Dec
def rV : Pt -> Pt -> Prop
 | .empty, .empty => True
 | .bol, .bol => True
 | .eol, .eol => True
 | .bytes p, .bytes q => aU p = aU q
 | .cat a b, .cat c d => rV a c ∧ rV b d
 | .alt a b, .alt c d => rV a c ∧ rV b d
 | .times a lo hi, .times c lo' hi' => rV a c ∧ lo = lo' ∧ hi = hi'
 | .group a _, .group c _ => rV a c
 | .ref m, .ref m' => m = m'
 | _, _ => False
theorem Ox {c : UInt8} : ∀ {a b x y : List UInt8}, c ∉ a -> c ∉ b -> a ++ c :: x = b ++ c :: y -> a = b ∧ x = y
 | [], [], x, y, _, _, h => by simpa using h
 | [], d :: b, x, y, _, hb, h => by simp at h; exact absurd h.1 (fun e => hb (by simp [e]))
 | d :: a, [], x, y, ha, _, h => by simp at h; exact absurd h.1.symm (fun e => ha (by simp [e]))
 | d :: a, e :: b, x, y, ha, hb, h => by
  simp only [List.cons_append, List.cons.injEq] at h
  obtain ⟨h1, h2⟩ := Ox (fun hm => ha (by simp [hm])) (fun hm => hb (by simp [hm])) h.2
  exact ⟨by rw [h.1, h1], h2⟩
theorem Tn : ((List.range 16).all fun i => !(hexDigit i == 93) && (List.range 16).all fun j => !(hexDigit i == hexDigit j) || i == j) = true := by decide +kernel
theorem U8 {i : Nat} (h : i < 16) : hexDigit i ≠ 93 := by
 have := qh Tn h
 simp only [Bool.and_eq_true] at this
 simpa using this.1
theorem Tp {i j : Nat} (h : i < 16) (h2 : j < 16) (e : hexDigit i = hexDigit j) : i = j := by
 have := qh Tn h
 simp only [Bool.and_eq_true] at this
 have := qh this.2 h2
 rw [e] at this
 simpa using this
theorem Ct (c : UInt8) (l : List UInt8) : rU (c :: l) = hexDigit (c.toNat / 16) :: hexDigit (c.toNat % 16) :: rU l := rfl
theorem Tq : ∀ {a b x y : List UInt8}, rU a ++ 93 :: x = rU b ++ 93 :: y -> a = b ∧ x = y
 | [], [], x, y, h => by simpa [rU] using h
 | [], d :: b, x, y, h => by
  rw [Ct] at h
  simp only [rU, List.flatMap_nil, List.nil_append, List.cons_append, List.cons.injEq] at h
  exact absurd h.1.symm (U8 (by have := d.toNat_lt; omega))
 | d :: a, [], x, y, h => by
  rw [Ct] at h
  simp only [rU, List.flatMap_nil, List.nil_append, List.cons_append, List.cons.injEq] at h
  exact absurd h.1 (U8 (by have := d.toNat_lt; omega))
 | d :: a, e :: b, x, y, h => by
  rw [Ct, Ct] at h
  simp only [List.cons_append, List.cons.injEq] at h
  have hd := d.toNat_lt
  have he := e.toNat_lt
  have h1 := Tp (by omega) (by omega) h.1
  have h2 := Tp (by omega) (by omega) h.2.1
  obtain ⟨h3, h4⟩ := Tq h.2.2
  exact ⟨by rw [h3, show d = e from by rw [<- UInt8.toNat_inj]; omega], h4⟩
theorem M8 {u : Nat} (h : u < 10) : isDigit (UInt8.ofNat (48 + u)) = true ∧ (UInt8.ofNat (48 + u)).toNat = 48 + u := by
 have : (UInt8.ofNat (48 + u)).toNat = 48 + u := by rw [UInt8.toNat_ofNat']; omega
 refine ⟨?_, this⟩
 unfold isDigit
 rw [this]; simp; omega
theorem Tt : ∀ (k u : Nat), (uW k u).all isDigit = true
 | 0, _ => rfl
 | k + 1, u => by
  unfold uW
  split
  ·rename_i h; simp only [List.all_cons, List.all_nil, (M8 h).1]; rfl
  ·have := Tt k (u / 10)
   simp only [List.all_append, this, Bool.true_and, List.all_cons, List.all_nil, Bool.and_true]
   exact (M8 (Nat.mod_lt _ (by omega))).1
theorem Tv : ∀ (k u : Nat), u < 10 ^ k -> 1 <= k -> mW (uW k u) = u
 | 0, _, _, h => by omega
 | k + 1, u, h, _ => by
  unfold uW
  split
  ·rename_i h10
   have := (M8 h10).2
   simp only [mW, List.foldl_cons, List.foldl_nil]
   omega
  ·rename_i h10
   have hk : 1 <= k := by
    rcases Nat.eq_zero_or_pos k with h0 | h0
    ·subst h0; omega
    ·exact h0
   rw [Nat.pow_succ] at h
   have hm := (M8 (show u % 10 < 10 by omega)).2
   rw [Il, Tv k (u / 10) (by omega) hk, hm]
   omega
theorem BG {k : Nat} (h : k < 1000000) : mW (dH (k : Int)) = k ∧ (dH (k : Int)).all isDigit = true := by
 have hk : k < 10 ^ 20 := Nat.lt_of_lt_of_le (show k < 10 ^ 6 by omega) (Nat.pow_le_pow_right (by omega) (by omega))
 unfold dH
 rw [if_neg (by omega), Int.toNat_natCast]
 exact ⟨Tv 20 k hk (by omega), Tt 20 k⟩
theorem Oy : dH (-1) = [45, 49] := by decide +kernel
theorem Ja {x : Int} (h1 : -1 <= x) (h2 : x < 1000000) : (44 : UInt8) ∉ dH x ∧ (59 : UInt8) ∉ dH x := by
 by_cases h : x = -1
 ·rw [h, Oy]; decide
 ·obtain ⟨k, rfl⟩ : ∃ k : Nat, x = (k : Int) := ⟨x.toNat, by omega⟩
  have := (BG (k := k) (by omega)).2
  rw [List.all_eq_true] at this
  exact ⟨fun hm => absurd (this _ hm) (by decide), fun hm => absurd (this _ hm) (by decide)⟩
theorem Tw {x y : Int} (h1 : -1 <= x) (h2 : x < 1000000) (h3 : -1 <= y) (h4 : y < 1000000) (e : dH x = dH y) : x = y := by
 by_cases hx : x = -1
 ·by_cases hy : y = -1
  ·omega
  ·obtain ⟨k, rfl⟩ : ∃ k : Nat, y = (k : Int) := ⟨y.toNat, by omega⟩
   have := (BG (k := k) (by omega)).2
   rw [<- e, hx, Oy] at this
   exact absurd this (by decide)
 ·by_cases hy : y = -1
  ·obtain ⟨k, rfl⟩ : ∃ k : Nat, x = (k : Int) := ⟨x.toNat, by omega⟩
   have := (BG (k := k) (by omega)).2
   rw [e, hy, Oy] at this
   exact absurd this (by decide)
  ·obtain ⟨k, rfl⟩ : ∃ k : Nat, x = (k : Int) := ⟨x.toNat, by omega⟩
   obtain ⟨j, rfl⟩ : ∃ k : Nat, y = (k : Int) := ⟨y.toNat, by omega⟩
   have a := (BG (k := k) (by omega)).1
   have b := (BG (k := j) (by omega)).1
   rw [e, b] at a
   omega
theorem Tx {m : Nat} (h : m < 10) : dH (m : Int) = [UInt8.ofNat (48 + m)] := by
 unfold dH
 rw [if_neg (by omega), Int.toNat_natCast]
 unfold uW
 rw [if_pos h]
theorem ZT : ∀ (t u : Pt) (x y : List UInt8), bD t = true -> bD u = true -> bQ t ++ x = bQ u ++ y -> rV t u ∧ x = y := by
 intro t
 induction t with
 | empty => intro u x y _ _ h; cases u <;> simp [bQ] at h; exact ⟨trivial, h⟩
 | bol => intro u x y _ _ h; cases u <;> simp [bQ] at h; exact ⟨trivial, h⟩
 | eol => intro u x y _ _ h; cases u <;> simp [bQ] at h; exact ⟨trivial, h⟩
 | bytes p =>
  intro u x y _ _ h
  cases u <;> simp [bQ] at h
  exact Tq h
 | ref m =>
  intro u x y ht hu h
  cases u <;> simp [bQ] at h
  rename_i m'
  simp only [bD, Bool.and_eq_true, decide_eq_true_eq] at ht hu
  rw [Tx (by omega), Tx (by omega)] at h
  simp only [List.cons_append, List.nil_append, List.cons.injEq] at h
  have := congrArg UInt8.toNat h.1
  rw [UInt8.toNat_ofNat', UInt8.toNat_ofNat'] at this
  exact ⟨show m = m' by omega, h.2⟩
 | cat a b iha ihb =>
  intro u x y ht hu h
  cases u <;> simp [bQ] at h
  simp only [bD, Bool.and_eq_true] at ht hu
  obtain ⟨h1, h2⟩ := iha _ _ _ ht.1 hu.1 h
  obtain ⟨h3, h4⟩ := ihb _ _ _ ht.2 hu.2 h2
  exact ⟨⟨h1, h3⟩, h4⟩
 | alt a b iha ihb =>
  intro u x y ht hu h
  cases u <;> simp [bQ] at h
  simp only [bD, Bool.and_eq_true] at ht hu
  obtain ⟨h1, h2⟩ := iha _ _ _ ht.1 hu.1 h
  obtain ⟨h3, h4⟩ := ihb _ _ _ ht.2 hu.2 h2
  exact ⟨⟨h1, h3⟩, h4⟩
 | times a lo hi iha =>
  intro u x y ht hu h
  cases u <;> simp [bQ] at h
  rename_i c lo' hi'
  simp only [bD, fB, Bool.and_eq_true, Bool.or_eq_true, decide_eq_true_eq] at ht hu
  have n1 := Ja (x := lo) (by omega) (by omega)
  have n2 := Ja (x := lo') (by omega) (by omega)
  have n3 := Ja (x := hi) (by omega) (by omega)
  have n4 := Ja (x := hi') (by omega) (by omega)
  obtain ⟨h1, h2⟩ := Ox n1.1 n2.1 h
  obtain ⟨h3, h4⟩ := Ox n3.2 n4.2 h2
  obtain ⟨h5, h6⟩ := iha _ _ _ ht.1 hu.1 h4
  exact ⟨⟨h5, Tw (by omega) (by omega) (by omega) (by omega) h1, Tw (by omega) (by omega) (by omega) (by omega) h3⟩, h6⟩
 | group a m iha =>
  intro u x y ht hu h
  cases u <;> simp [bQ] at h
  simp only [bD, Bool.and_eq_true] at ht hu
  obtain ⟨h1, h2⟩ := iha _ _ _ ht.1 hu.1 h
  simp only [List.cons.injEq, true_and] at h2
  exact ⟨h1, h2⟩
theorem vM {t : Pt} {g : Nat} {i : Bool} {e : List Bool} {r : Bool} (h : (aC t (g, i, e, r)).2.1 = true) : i = true ∧ (aC t (g, true, e, r)).2.1 = true := by
 have := kF t g true i e r
 rw [Bool.true_and] at this
 rw [this] at h
 simp only [Bool.and_eq_true] at h
 exact ⟨h.2, h.1⟩
theorem ZU {p q : Nat -> Bool} (h : aU p = aU q) : wd p = wd q := rP fun i hi => by
 have h1 := E5 (p := p) hi
 have h2 := E5 (p := q) hi
 rw [h] at h1
 rw [Bool.eq_iff_iff, h1, h2]
theorem zcR : ∀ (t u : Pt) (o g : Nat) (e e' : List Bool) (r r' : Bool), rV t u -> (aC t (g, true, e, r)).2.1 = true -> (aC u (g, true, e', r')).2.1 = true -> t.enc o = u.enc o ∧ (aC t (g, true, e, r)).1 = (aC u (g, true, e', r')).1 := by
 intro t
 induction t with
 | empty => intro u o g e e' r r' h _ _; cases u <;> simp only [rV] at h; exact ⟨rfl, rfl⟩
 | bol => intro u o g e e' r r' h _ _; cases u <;> simp only [rV] at h; exact ⟨rfl, rfl⟩
 | eol => intro u o g e e' r r' h _ _; cases u <;> simp only [rV] at h; exact ⟨rfl, rfl⟩
 | bytes p => intro u o g e e' r r' h _ _; cases u <;> simp only [rV] at h; exact ⟨by simp only [Pt.enc, ZU h], rfl⟩
 | ref m => intro u o g e e' r r' h _ _; cases u <;> simp only [rV] at h; subst h; exact ⟨rfl, rfl⟩
 | cat a b iha ihb =>
  intro u o g e e' r r' h h1 h2
  cases u <;> simp only [rV] at h
  rename_i c d
  simp only [aC] at h1 h2 ⊢
  have m1 := vM (t := b) (g := (aC a (g, true, e, r)).1) (i := (aC a (g, true, e, r)).2.1) (e := (aC a (g, true, e, r)).2.2.1) (r := (aC a (g, true, e, r)).2.2.2) h1
  have m2 := vM (t := d) (g := (aC c (g, true, e', r')).1) (i := (aC c (g, true, e', r')).2.1) (e := (aC c (g, true, e', r')).2.2.1) (r := (aC c (g, true, e', r')).2.2.2) h2
  obtain ⟨k1, k2⟩ := iha c o g e e' r r' h.1 m1.1 m2.1
  have hs : a.sz = c.sz := by have := congrArg List.length k1; rwa [Pt.aZ, Pt.aZ] at this
  have m1' := m1.2
  rw [k2] at m1'
  obtain ⟨k3, k4⟩ := ihb d (o + a.sz) _ _ (aC c (g, true, e', r')).2.2.1 _ (aC c (g, true, e', r')).2.2.2 h.2 m1' m2.2
  have hs2 : b.sz = d.sz := by have := congrArg List.length k3; rwa [Pt.aZ, Pt.aZ] at this
  have e1 : aC a (g, true, e, r) = ((aC c (g, true, e', r')).1, true, (aC a (g, true, e, r)).2.2.1, (aC a (g, true, e, r)).2.2.2) := Prod.ext k2 (Prod.ext m1.1 (Prod.ext rfl rfl))
  have e2 : aC c (g, true, e', r') = ((aC c (g, true, e', r')).1, true, (aC c (g, true, e', r')).2.2.1, (aC c (g, true, e', r')).2.2.2) := Prod.ext rfl (Prod.ext m2.1 (Prod.ext rfl rfl))
  refine ⟨?_, ?_⟩
  ·simp only [Pt.enc, Pt.top, k1, hs, hs2]
   rw [hs] at k3
   rw [k3]
  ·rw [e1, k4, <- e2]
 | alt a b iha ihb =>
  intro u o g e e' r r' h h1 h2
  cases u <;> simp only [rV] at h
  rename_i c d
  simp only [aC] at h1 h2 ⊢
  have m1 := vM (t := b) (g := (aC a (g, true, e, r)).1) (i := (aC a (g, true, e, r)).2.1) (e := (aC a (g, true, e, r)).2.2.1) (r := (aC a (g, true, e, r)).2.2.2) h1
  have m2 := vM (t := d) (g := (aC c (g, true, e', r')).1) (i := (aC c (g, true, e', r')).2.1) (e := (aC c (g, true, e', r')).2.2.1) (r := (aC c (g, true, e', r')).2.2.2) h2
  obtain ⟨k1, k2⟩ := iha c o g e e' r r' h.1 m1.1 m2.1
  have hs : a.sz = c.sz := by have := congrArg List.length k1; rwa [Pt.aZ, Pt.aZ] at this
  have m1' := m1.2
  rw [k2] at m1'
  obtain ⟨k3, k4⟩ := ihb d (o + a.sz) _ _ (aC c (g, true, e', r')).2.2.1 _ (aC c (g, true, e', r')).2.2.2 h.2 m1' m2.2
  have hs2 : b.sz = d.sz := by have := congrArg List.length k3; rwa [Pt.aZ, Pt.aZ] at this
  have e1 : aC a (g, true, e, r) = ((aC c (g, true, e', r')).1, true, (aC a (g, true, e, r)).2.2.1, (aC a (g, true, e, r)).2.2.2) := Prod.ext k2 (Prod.ext m1.1 (Prod.ext rfl rfl))
  have e2 : aC c (g, true, e', r') = ((aC c (g, true, e', r')).1, true, (aC c (g, true, e', r')).2.2.1, (aC c (g, true, e', r')).2.2.2) := Prod.ext rfl (Prod.ext m2.1 (Prod.ext rfl rfl))
  refine ⟨?_, ?_⟩
  ·simp only [Pt.enc, Pt.top, k1, hs, hs2]
   rw [hs] at k3
   rw [k3]
  ·rw [e1, k4, <- e2]
 | times a lo hi iha =>
  intro u o g e e' r r' h h1 h2
  cases u <;> simp only [rV] at h
  rename_i c lo' hi'
  obtain ⟨h, rfl, rfl⟩ := h
  simp only [aC] at h1 h2 ⊢
  obtain ⟨k1, k2⟩ := iha c o g e e' r r' h h1 h2
  have hs : a.sz = c.sz := by have := congrArg List.length k1; rwa [Pt.aZ, Pt.aZ] at this
  exact ⟨by simp only [Pt.enc, Pt.top, k1, hs], k2⟩
 | group a m iha =>
  intro u o g e e' r r' h h1 h2
  cases u <;> simp only [rV] at h
  rename_i c m'
  simp only [aC, Bool.true_and] at h1 h2 ⊢
  have m1 := vM h1
  have m2 := vM h2
  have e1 := of_decide_eq_true m1.1
  have e2 := of_decide_eq_true m2.1
  subst e1
  subst e2
  obtain ⟨k1, k2⟩ := iha c o (g + 1) e e' r r' h m1.2 m2.2
  have hs : a.sz = c.sz := by have := congrArg List.length k1; rwa [Pt.aZ, Pt.aZ] at this
  refine ⟨by simp only [Pt.enc, Pt.top, k1, hs], ?_⟩
  simp only [decide_true]
  exact k2
theorem Tz {t u : Pt} (ht : ou t) (hu : ou u) : bQ t = bQ u <-> t.enc 0 = u.enc 0 := by
 constructor
 ·intro h
  obtain ⟨h1, _⟩ := ZT t u [] [] ht.2.1.1 hu.2.1.1 (by rw [h])
  exact (zcR t u 0 0 gN gN false false h1 ht.2.2 hu.2.2).1
 ·intro h
  have a := z8 (n := 1000) (by omega) ht
  have b := z8 (n := 1000) (by omega) hu
  rw [h, b] at a
  exact (Option.some.inj a).symm
theorem Yi {l : List Nd} (hl : l.length <= 1000) : ∀ (t : Pt) (o m : Nat), At l o t -> bD t = true -> t.sz + 500 <= m -> qy m (l, t.top o) = some (cu t) := by
 intro t
 have start : ∀ {t : Pt} {o m : Nat}, qy (m + 1) (l, t.top o) = dN m (qy m) (l, t.top o) := rfl
 induction t with
 | empty =>
  intro o m h hf hm
  obtain ⟨m, rfl⟩ : ∃ k, m = k + 1 := ⟨m - 1, by omega⟩
  rw [start]; unfold dN; simp only
  rw [ah h.top.1, h.top.2]; rfl
 | bol =>
  intro o m h hf hm
  obtain ⟨m, rfl⟩ : ∃ k, m = k + 1 := ⟨m - 1, by omega⟩
  rw [start]; unfold dN; simp only
  rw [ah h.top.1, h.top.2]; rfl
 | eol =>
  intro o m h hf hm
  obtain ⟨m, rfl⟩ : ∃ k, m = k + 1 := ⟨m - 1, by omega⟩
  rw [start]; unfold dN; simp only
  rw [ah h.top.1, h.top.2]; rfl
 | bytes p =>
  intro o m h hf hm
  obtain ⟨m, rfl⟩ : ∃ k, m = k + 1 := ⟨m - 1, by omega⟩
  rw [start]; unfold dN; simp only
  rw [ah h.top.1, h.top.2]
  simp only [Pt.nv, NV.node]
  rw [au (by rfl), Qd (by omega), aA, Qf (by omega)]; rfl
 | ref q =>
  intro o m h hf hm
  obtain ⟨m, rfl⟩ : ∃ k, m = k + 1 := ⟨m - 1, by omega⟩
  simp only [bD, Bool.and_eq_true, decide_eq_true_eq] at hf
  rw [start]; unfold dN; simp only
  rw [ah h.top.1, h.top.2]
  simp only [Pt.nv, NV.node]
  have := @iL (q : Int)
  rw [aj (by rfl), aj (by rfl), aj (by rfl), aj (by rfl), aj (by rfl), aj (by rfl), aj (by rfl), au (by rfl), Io (by omega) (by omega) (by omega), aA, ah (by simp [av]; omega)]; rfl
 | cat a b iha ihb =>
  intro o m h hf hm
  obtain ⟨m, rfl⟩ : ∃ k, m = k + 1 := ⟨m - 1, by omega⟩
  have hlen := h.len
  simp only [bD, Bool.and_eq_true] at hf
  simp only [Pt.sz] at hm hlen
  have la := fQ a
  have lb := fQ b
  rw [start]; unfold dN; simp only
  rw [ah h.top.1, h.top.2]
  simp only [Pt.nv, NV.node]
  rw [aj (by rfl), aj (by rfl), aj (by rfl), au (by rfl), iha o m h.zn.1 hf.1 (by omega), aA, ihb (o + a.sz) m h.zn.2 hf.2 (by omega), aA, ah (by exact decide_eq_true (by unfold av; omega))]; rfl
 | alt a b iha ihb =>
  intro o m h hf hm
  obtain ⟨m, rfl⟩ : ∃ k, m = k + 1 := ⟨m - 1, by omega⟩
  rw [start]; unfold dN; simp only
  rw [ah h.top.1, h.top.2]; rfl
 | times a lo hi iha =>
  intro o m h hf hm
  obtain ⟨m, rfl⟩ : ∃ k, m = k + 1 := ⟨m - 1, by omega⟩
  have hlen := h.len
  simp only [bD, fB, Bool.and_eq_true, Bool.or_eq_true, decide_eq_true_eq] at hf
  simp only [Pt.sz] at hm hlen
  have la := fQ a
  have l1 := @iL lo
  have l2 := @iL hi
  rw [start]; unfold dN; simp only
  rw [ah h.top.1, h.top.2]
  simp only [Pt.nv, NV.node]
  rw [aj (by rfl), aj (by rfl), aj (by rfl), aj (by rfl), aj (by rfl), au (by rfl), iha o m h.DW hf.1 (by omega), aA]
  have d1 := Io (n := m) (x := lo) (by omega) (by omega) (by omega)
  have d2 := Io (n := m) (x := hi) (by omega) (by omega) (by omega)
  simp only [d1, d2, aA]
  have hp : cu (.times a lo hi) = cu a ++ BF lo hi := rfl
  rw [hp]
  unfold BF
  by_cases h1 : hi = -1
  ·subst h1
   by_cases h0 : lo = 0
   ·subst h0
    rw [au (by rfl), au (by rfl), ah (by simp [av]; omega)]; rfl
   ·rw [aj (by simpa using h0), aj (by rw [Bool.eq_false_iff, ne_eq, beq_iff_eq]; omega), au (by rfl), ah (by simp [av]; omega), ah (by simp [av]; omega), ah (by simp [av]; omega)]
    rw [show ((-1 : Int) == -1) = true from rfl, show (lo == 0) = false by simpa using h0]
    simp
  ·have e1 : (hi == -1) = false := by simpa using h1
   rw [e1]
   by_cases hlh : lo = hi
   ·subst hlh
    have e2 : (lo == lo) = true := by simp
    rw [e2]
    simp only [aM, aR, cond_false, cond_true]
    have hall : (chk (decide ((cu a).length + ([92, 123] : List UInt8).length <= av)) (chk (decide ((cu a ++ [92, 123]).length + (dH lo).length <= av)) (chk (decide (((cu a ++ [92, 123]) ++ dH lo).length + ([92, 125] : List UInt8).length <= av)) (some (((cu a ++ [92, 123]) ++ dH lo) ++ [92, 125]))))) = some (cu a ++ ([92, 123] ++ dH lo ++ [92, 125])) := by
     rw [ah (by simp [av]; omega), ah (by simp [av]; omega), ah (by simp [av]; omega)]; simp
    rw [hall]
    cases (lo == 0) <;> rfl
   ·have e2 : (lo == hi) = false := by simpa using hlh
    have e3 : (hi == lo) = false := by rw [Bool.eq_false_iff, ne_eq, beq_iff_eq]; exact fun h => hlh h.symm
    rw [e2, e3]
    simp only [aM, cond_false]
    have hall : (chk (decide ((cu a).length + ([92, 123] : List UInt8).length <= av)) (chk (decide ((cu a ++ [92, 123]).length + (dH lo).length <= av)) (chk (decide (((cu a ++ [92, 123]) ++ dH lo).length + ([44] : List UInt8).length <= av)) (chk (decide ((((cu a ++ [92, 123]) ++ dH lo) ++ [44]).length + (dH hi).length <= av)) (chk (decide (((((cu a ++ [92, 123]) ++ dH lo) ++ [44]) ++ dH hi).length + ([92, 125] : List UInt8).length <= av)) (some (((((cu a ++ [92, 123]) ++ dH lo) ++ [44]) ++ dH hi) ++ [92, 125]))))))) = some (cu a ++ ([92, 123] ++ dH lo ++ [44] ++ dH hi ++ [92, 125])) := by
     rw [ah (by simp [av]; omega), ah (by simp [av]; omega), ah (by simp [av]; omega), ah (by simp [av]; omega), ah (by simp [av]; omega)]; simp
    rw [hall]
    cases (lo == 0) <;> rfl
 | group a q iha =>
  intro o m h hf hm
  obtain ⟨m, rfl⟩ : ∃ k, m = k + 1 := ⟨m - 1, by omega⟩
  have hlen := h.len
  simp only [bD, Bool.and_eq_true] at hf
  simp only [Pt.sz] at hm hlen
  have la := fQ a
  rw [start]; unfold dN; simp only
  rw [ah h.top.1, h.top.2]
  simp only [Pt.nv, NV.node]
  rw [aj (by rfl), aj (by rfl), aj (by rfl), aj (by rfl), aj (by rfl), aj (by rfl), au (by rfl), iha o m h.DX hf.1 (by omega), aA, ah (by simp [av]; omega), ah (by simp [av]; omega)]; rfl
theorem zbp {n : Nat} {a b : List Nd} (hl : a.length < n) (hl2 : a.length < 1000000) : (a = b ∧ nI n (a, b) = some true) ∨ (a ≠ b ∧ nI n (a, b) = some false) := by
 by_cases hab : a = b
 ·subst hab; exact Or.inl ⟨rfl, X4 hl hl2⟩
 ·refine Or.inr ⟨hab, ?_⟩
  unfold nI
  simp only
  by_cases hle : a.length = b.length
  ·rw [aj (by simp [hle])]
   have hex : ∃ j, j < a.length ∧ a.getD j (Ty.dflt ak) ≠ b.getD j (Ty.dflt ak) := by
    apply Classical.byContradiction
    intro hno
    apply hab
    apply List.ext_getElem hle
    intro i h1 h2
    apply Classical.byContradiction
    intro hd
    apply hno
    refine ⟨i, h1, ?_⟩
    rw [List.getD_eq_getElem?_getD, List.getD_eq_getElem?_getD, List.getElem?_eq_getElem h1, List.getElem?_eq_getElem h2]
    exact hd
   have key : ∀ k i m, (∃ j, i <= j ∧ j <= i + k ∧ j < a.length ∧ a.getD j (Ty.dflt ak) ≠ b.getD j (Ty.dflt ak)) -> k < m -> fix (jI n) m (a, b, (i : Int), ()) = some false := by
    intro k
    induction k with
    | zero =>
     intro i m ⟨j, h1, h2, h3, h4⟩ hm
     have : j = i := by omega
     subst this
     rw [aX hm, jI]
     simp only
     rw [au (by simp; omega), ah (dM h3), ah (dM (by omega))]
     unfold aG
     rw [Int.toNat_natCast, WI h4]; rfl
    | succ k ih =>
     intro i m ⟨j, h1, h2, h3, h4⟩ hm
     rw [aX (by omega), jI]
     simp only
     rw [au (by simp; omega), ah (dM (by omega)), ah (dM (by omega)), aK (by omega) (by omega)]
     by_cases hij : aG (Ty.dflt ak) a (i : Int) = aG (Ty.dflt ak) b (i : Int)
     ·rw [WH hij]
      have hne : j ≠ i := by
       intro e; subst e
       unfold aG at hij
       rw [Int.toNat_natCast] at hij
       exact h4 hij
      exact ih (i + 1) (m - 1) ⟨j, by omega, by omega, h3, h4⟩ (by omega)
     ·rw [WI hij]; rfl
   obtain ⟨j, hj1, hj2⟩ := hex
   exact key a.length 0 n ⟨j, by omega, by omega, hj1, hj2⟩ (by omega)
  ·rw [au (by simp; omega)]
theorem Oz {n : Nat} {t : Pt} (hn : 200000 <= n) (h : ou t) : qz n (t.enc 0) = some (M6 t) := by
 unfold qz
 simp only
 have hmay : o8 n (t.enc 0) = some true := by
  rcases Ir (n := n) (l := t.enc 0) (by omega) (X3 t 0) with ⟨_, _, _, h3⟩ | ⟨h1, _⟩
  ·exact h3
  ·exact absurd rfl (h1 t h)
 rw [hmay]
 simp only [aA, Bool.not_true, aM]
 have hsz := h.1
 have htp := t.bT
 have hlen := t.aZ 0
 have hpl := fQ t
 have hv : IntKind.wrap .i64 (((t.enc 0).length : Int) - 1) = t.top 0 := by rw [aK (by omega) (by omega), hlen]; unfold Pt.top; omega
 rw [hv, Yi (l := t.enc 0) (by omega) t 0 n (At.self t) h.2.1.1 (by omega), aA, Om (by omega) (by omega), aA]
 unfold M6
 cases hp : nM (cu t) with
 | inr x =>
  obtain ⟨e, k⟩ := x
  have := M7 hp
  simp only [DV]
  rw [au (by simp; omega)]
 | inl u =>
  simp only [DV]
  have hu := JM hp
  have hul := u.aZ 0
  have hus := hu.1
  rw [aj (by rfl)]
  rcases zbp (n := n) (a := u.enc 0) (b := t.enc 0) (by omega) (by omega) with ⟨e1, e2⟩ | ⟨e1, e2⟩
  ·rw [e2, aA, show (bQ u == bQ t) = true by rw [beq_iff_eq]; exact (Tz hu h).2 e1]; rfl
  ·rw [e2, aA, show (bQ u == bQ t) = false by rw [Bool.eq_false_iff, ne_eq, beq_iff_eq]; exact fun h2 => e1 ((Tz hu h).1 h2)]; rfl
theorem zcS (w : List Int) (h1 : w.length = 4) (h2 : ∀ x ∈ w, 0 <= x ∧ x <= 18446744073709551615) : ∃ p, w = wd p := by
 match w, h1 with
 | [a, b, c, d], _ =>
  have ha := h2 a (by simp)
  have hb := h2 b (by simp)
  have hc := h2 c (by simp)
  have hd := h2 d (by simp)
  let p : Nat -> Bool := fun i => (([a, b, c, d] : List Int).getD (i / 64) 0).toNat.testBit (i % 64)
  refine ⟨p, ?_⟩
  have hw : ∀ (k : Nat) (x : Int), ([a, b, c, d] : List Int).getD k 0 = x -> 0 <= x -> x <= 18446744073709551615 -> word p k = x := by
   intro k x hx h0 h1
   unfold word
   rw [<- EJ (x := x.toNat) (k := k) (p := p) (by omega) (fun j hj => by
    show x.toNat.testBit j = (([a, b, c, d] : List Int).getD ((64 * k + j) / 64) 0).toNat.testBit ((64 * k + j) % 64)
    rw [show (64 * k + j) / 64 = k by omega, show (64 * k + j) % 64 = j by omega, hx])]
   omega
  simp only [wd, hw 0 a rfl ha.1 ha.2, hw 1 b rfl hb.1 hb.2, hw 2 c rfl hc.1 hc.2, hw 3 d rfl hd.1 hd.2]
theorem Yj : qw 200000 () = some true := by decide +kernel
theorem Dc (l : List Nd) (hl : Ls [.slice ak] l) : wD 200000 l = some true := by
 unfold wD
 simp only
 rw [Yj]
 by_cases h : l.length > 130
 ·rw [au (by simp; omega)]; rfl
 ·rw [aj (by simp; omega)]
  simp only [aA, Bool.not_true, aM]
  have hw : ∀ nd ∈ l, BA nd := by
   intro nd hnd
   have := hl.2 nd hnd
   have h2 := this.2.1
   exact zcS nd.2.1 h2.1 (fun x hx => h2.2 x hx)
  rw [zcP (by omega) (by omega)]
  have hm := Pj (n := 200000) (l := l) (by omega) hw
  have hr := Ir (n := 200000) (l := l) (by omega) hw
  rcases hm with ⟨t, h1, h2, _⟩ | ⟨h1, h2⟩
  ·subst h2
   rw [Tm (by omega) h1, aA, aA, Oz (by omega) h1, aA, au (by simp)]
   simp
  ·have hno : o8 200000 l = some false := by
    rcases hr with ⟨t, h3, h4, _⟩ | ⟨_, h4⟩
    ·exact absurd h4 (h1 t h3)
    ·exact h4
   unfold o7 qz
   simp only
   rw [h2]
   simp only [aA]
   rw [hno]
   rfl
end Go.Dec
