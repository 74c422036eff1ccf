/- Part of a proof over this seat: a library of my own, and what it says of this seat. No statement is proved here. -/
import Derived.Test.YthhbdkdofhhoeaaGreatDoorPartBP
import Derived.Test.YthhbdkdofhhoeaaGreatDoorPartBO
namespace Go.Dec
def yN (lo hi : Int) : List UInt8 :=
 bif hi == -1 then (bif lo == 0 then [42] else [92, 123] ++ dG lo ++ [44, 92, 125])
 else bif hi == lo then [92, 123] ++ dG lo ++ [92, 125] else [92, 123] ++ dG lo ++ [44] ++ dG hi ++ [92, 125]
def bA : Pt -> List UInt8
 | .empty => []
 | .bytes p => nM p
 | .bol => [94]
 | .eol => [36]
 | .cat a b => bA a ++ bA b
 | .alt _ _ => [124]
 | .times a lo hi => bA a ++ yN lo hi
 | .group a _ => [92, 40] ++ bA a ++ [92, 41]
 | .ref m => [92] ++ dG (m : Int)
theorem zNc (p : Nat -> Bool) : (dH (aS p) 257 0).length <= 256 := by
 rw [<- Xn (aS p) 256 0 257 (by omega) (by omega)]
 have h1 := Hl (gM (fT (aS p) 0))
 rw [Ab] at h1
 have := Xo (aS p)
 omega
theorem zKf (p : Nat -> Bool) : (nM p).length <= 270 := by
 unfold nM
 split
 ·simp
 ·unfold Aa
  rename_i c _
  cases c == 10 <;> cases kH.contains c <;> simp
 ·have hl : (xV p).length <= 270 := by
   have := zNc p
   simp only [xV, Yx, vZ, List.length_append]
   cases p 93 <;> cases p 10 <;> cases p 91 <;> cases p 92 <;> cases p 94 <;> cases p 45 <;> simp <;> omega
  cases (aY p).length == 256
  ·cases aY p == [45, 94]
   ·exact hl
   ·simp
  ·simp
theorem Tm (lo hi : Int) : (yN lo hi).length <= 60 := by
 have h1 := @kG lo
 have h2 := @kG hi
 unfold yN
 cases hi == -1 <;> cases lo == 0 <;> cases hi == lo <;> simp <;> omega
theorem iN : ∀ t : Pt, (bA t).length <= 300 * t.sz
 | .empty | .bol | .eol => by simp [bA, Pt.sz]
 | .bytes p => by have := zKf p; simp [bA, Pt.sz]; omega
 | .cat a b => by have := iN a; have := iN b; simp [bA, Pt.sz]; omega
 | .alt a b => by simp [bA, Pt.sz]; omega
 | .times a lo hi => by have := iN a; have := Tm lo hi; simp [bA, Pt.sz]; omega
 | .group a _ => by have := iN a; simp [bA, Pt.sz]; omega
 | .ref m => by have := @kG (m : Int); simp [bA, Pt.sz]; omega
section
variable {n : Nat} {l : List Nd}
theorem count_eq {lo hi : Int} {a b c : Int} {w : List Int} (h1 : -1 <= lo) (h2 : lo < 1000000) (h3 : -1 <= hi) (h4 : hi < 1000000) : yF n (c, w, a, b, lo, hi, 0, ()) = some (yN lo hi) := by
 unfold yF yN
 simp only
 have l1 := @kG lo
 have l2 := @kG hi
 rw [Ak h1 h2, aH, Ak h3 h4, aH]
 cases hi == -1
 ·simp only [aZ, cond_false]
  cases hi == lo
  ·rw [aZ, aA (by simp [aJ]; omega), aA (by simp [aJ]; omega), aA (by simp [aJ]; omega), aA (by simp [aJ]; omega)]; rfl
  ·rw [bM, aA (by simp [aJ]; omega), aA (by simp [aJ]; omega)]; rfl
 ·simp only [bM, cond_true]
  cases lo == 0
  ·rw [aZ, aA (by simp [aJ]; omega), aA (by simp [aJ]; omega)]; rfl
  ·rfl
theorem zNd {i : Nat} {row : List (List UInt8)} (h : i < row.length) : (inB (i : Int) row.length && decide (0 + row.length <= row.length)) = true := by
 rw [jP h]; simp
theorem Yg {row : List (List UInt8)} {i : Nat} {x : List UInt8} (h : i < row.length) : (row.set i x).getD i [] = x := by
 rw [List.getD_eq_getElem?_getD, List.getElem?_set_self h]; rfl
theorem Vm {row : List (List UInt8)} {i j : Nat} {x : List UInt8} (h : i ≠ j) : (row.set i x).getD j [] = row.getD j [] := by
 rw [List.getD_eq_getElem?_getD, List.getElem?_set_ne h, <- List.getD_eq_getElem?_getD]
def Vn (row : List (List UInt8)) (o : Nat) : Pt -> Prop
 | .cat a b => row.getD (o + a.sz - 1) [] = bA a ∧ row.getD (o + a.sz + b.sz - 1) [] = bA b
 | .times a _ _ => row.getD (o + a.sz - 1) [] = bA a
 | .group a _ => row.getD (o + a.sz - 1) [] = bA a
 | _ => True
theorem zHs {t : Pt} {o k m : Nat} {row : List (List UInt8)} (h : At l o t) (hl : l.length < 1000000) (hm : t.sz < m) (hk : k + 1 = t.sz) (hr : row.length = l.length) (hn : 400 <= n) (hf : bY t = true) (hsz : t.sz <= 1000)
    (hc : Vn row o t) :
    ∃ row' : List (List UInt8), fix (bW n) (m - k) (l, l, (l.length : Int), ((o + k : Nat) : Int), row, ()) = fix (bW n) (m - t.sz) (l, l, (l.length : Int), ((o + t.sz : Nat) : Int), row', ()) ∧ row'.length = row.length ∧ (∀ j, j ≠ o + k -> row'.getD j [] = row.getD j []) ∧ (t.kind ≠ 0 -> row'.getD (o + k) [] = bA t) ∧ (t.kind = 0 -> row'.getD (o + k) [] = row.getD (o + k) []) := by
  have hlen := h.len
  have hnd := h.node
  rw [show o + t.sz - 1 = o + k by omega] at hnd
  have hi : o + k < l.length := by omega
  have hir : o + k < row.length := by omega
  have hget : ∀ d, bB d l ((o + k : Nat) : Int) = (t.nv o).node := by
    intro d
    rw [iX hi]
    rw [List.getElem?_eq_getElem hi] at hnd
    exact Option.some.inj hnd
  have hw : IntKind.wrap .i64 (((o + k : Nat) : Int) + 1) = ((o + t.sz : Nat) : Int) := by rw [bT (by omega) (by omega)]; omega
  have hpl := iN t
  have hput : ∀ x : List UInt8, chk ((inB ((o + k : Nat) : Int) row.length && decide (0 + row.length <= row.length))) (
          chk (decide (0 + ((o + k : Nat) : Int).toNat < row.length)) (
            fix (bW n) (m - k - 1) (l, l, (l.length : Int), IntKind.wrap .i64 (((o + k : Nat) : Int) + 1), row.set (0 + ((o + k : Nat) : Int).toNat) x, ()))) = fix (bW n) (m - t.sz) (l, l, (l.length : Int), ((o + t.sz : Nat) : Int), row.set (o + k) x, ()) := by
    intro x
    rw [aA (zNd hir), Int.toNat_natCast, Nat.zero_add, aA (by simp; omega), hw, show m - k - 1 = m - t.sz by omega]
  have fin : ∀ x : List UInt8, x = bA t -> t.kind ≠ 0 -> ∃ row' : List (List UInt8), fix (bW n) (m - t.sz) (l, l, (l.length : Int), ((o + t.sz : Nat) : Int), row.set (o + k) x, ()) = fix (bW n) (m - t.sz) (l, l, (l.length : Int), ((o + t.sz : Nat) : Int), row', ()) ∧ row'.length = row.length ∧ (∀ j, j ≠ o + k -> row'.getD j [] = row.getD j []) ∧ (t.kind ≠ 0 -> row'.getD (o + k) [] = bA t) ∧ (t.kind = 0 -> row'.getD (o + k) [] = row.getD (o + k) []) := by
    intro x hx hk0
    exact ⟨_, rfl, by simp, fun j hj => Vm (by omega), fun _ => by rw [Yg hir, hx], fun h0 => absurd h0 hk0⟩
  have hrd : ∀ (x : Int) (j : Nat), x = (j : Int) -> j < row.length -> (inB x row.length && decide (0 + row.length <= row.length)) = true ∧ 0 + x.toNat < row.length ∧ row.getD (0 + x.toNat) (Ty.dflt .str) = row.getD j [] := by
    intro x j hx hj
    subst hx
    exact ⟨zNd hj, by omega, by rw [Int.toNat_natCast, Nat.zero_add]; rfl⟩
  rw [cK (by omega), bW]
  simp only
  rw [aF (by simp; omega), aA (jP hi), hget]
  unfold Vn at hc
  cases t with
  | empty =>
    simp only [Pt.nv, NV.node]
    rw [aB (by rfl), aB (by rfl), aB (by rfl), aB (by rfl), aB (by rfl), aB (by rfl), aB (by rfl), aB (by rfl), hw, show m - k - 1 = m - Pt.empty.sz by omega]
    exact ⟨row, rfl, rfl, fun _ _ => rfl, fun h => absurd rfl h, fun _ => rfl⟩
  | bytes p =>
    simp only [Pt.nv, NV.node]
    rw [aF (by rfl), zDq hn, aH, hput]
    exact fin _ rfl (by simp [Pt.kind])
  | bol =>
    simp only [Pt.nv, NV.node]
    rw [aB (by rfl), aF (by rfl), hput]
    exact fin _ rfl (by simp [Pt.kind])
  | eol =>
    simp only [Pt.nv, NV.node]
    rw [aB (by rfl), aB (by rfl), aF (by rfl), hput]
    exact fin _ rfl (by simp [Pt.kind])
  | cat a b =>
    simp only [Pt.nv, NV.node]
    have pa := a.eB
    have pb := b.eB
    have la := iN a
    have lb := iN b
    simp only [Pt.sz] at hlen hk hsz
    have ta : a.top o = ((o + a.sz - 1 : Nat) : Int) := by unfold Pt.top; omega
    have tb : b.top (o + a.sz) = ((o + a.sz + b.sz - 1 : Nat) : Int) := by unfold Pt.top; omega
    obtain ⟨a1, a2, a3⟩ := hrd _ _ ta (by omega)
    obtain ⟨b1, b2, b3⟩ := hrd _ _ tb (by omega)
    rw [hc.1] at a3
    rw [hc.2] at b3
    rw [aB (by rfl), aB (by rfl), aB (by rfl), aF (by rfl), aA a1, aA (by exact decide_eq_true a2), aA b1, aA (by exact decide_eq_true b2), aA (by exact decide_eq_true (by rw [a3, b3]; unfold aJ; omega)), hput]
    exact fin _ (by rw [a3, b3]; rfl) (by simp [Pt.kind])
  | alt a b =>
    simp only [Pt.nv, NV.node]
    rw [aB (by rfl), aB (by rfl), aB (by rfl), aB (by rfl), aF (by rfl), hput]
    exact fin _ rfl (by simp [Pt.kind])
  | times a lo hi =>
    simp only [Pt.nv, NV.node]
    have pa := a.eB
    have la := iN a
    have lc := Tm lo hi
    simp only [Pt.sz] at hlen hk hsz
    simp only [bY, iT, Bool.and_eq_true, Bool.or_eq_true, decide_eq_true_eq] at hf
    have ta : a.top o = ((o + a.sz - 1 : Nat) : Int) := by unfold Pt.top; omega
    obtain ⟨a1, a2, a3⟩ := hrd _ _ ta (by omega)
    rw [hc] at a3
    rw [aB (by rfl), aB (by rfl), aB (by rfl), aB (by rfl), aB (by rfl), aF (by rfl), aA a1, aA (by exact decide_eq_true a2), count_eq (by omega) (by omega) (by omega) (by omega), aH, aA (by exact decide_eq_true (by rw [a3]; unfold aJ; omega)), hput]
    exact fin _ (by rw [a3]; rfl) (by simp [Pt.kind])
  | group a q =>
    simp only [Pt.nv, NV.node]
    have pa := a.eB
    have la := iN a
    simp only [Pt.sz] at hlen hk hsz
    have ta : a.top o = ((o + a.sz - 1 : Nat) : Int) := by unfold Pt.top; omega
    obtain ⟨a1, a2, a3⟩ := hrd _ _ ta (by omega)
    rw [hc] at a3
    rw [aB (by rfl), aB (by rfl), aB (by rfl), aB (by rfl), aB (by rfl), aB (by rfl), aF (by rfl), aA a1, aA (by exact decide_eq_true a2), aA (by exact decide_eq_true (by rw [a3]; simp only [List.length_cons, List.length_nil]; unfold aJ; omega)), aA (by exact decide_eq_true (by rw [a3]; simp only [List.length_append, List.length_cons, List.length_nil]; unfold aJ; omega)), hput]
    exact fin _ (by rw [a3]; rfl) (by simp [Pt.kind])
  | ref q =>
    simp only [Pt.nv, NV.node]
    simp only [bY, Bool.and_eq_true, decide_eq_true_eq] at hf
    have li := @kG (q : Int)
    rw [aB (by rfl), aB (by rfl), aB (by rfl), aB (by rfl), aB (by rfl), aB (by rfl), aB (by rfl), aF (by rfl), Ak (by omega) (by omega), aH, aA (by simp [aJ]; omega), hput]
    exact fin _ rfl (by simp [Pt.kind])
end
end Go.Dec
namespace Go.Dec
section
variable {n : Nat} {l : List Nd}
theorem zHt (hl : l.length <= 1000) (hn : 2000 <= n) : ∀ (t : Pt) (o m : Nat) (row : List (List UInt8)), At l o t -> bY t = true -> t.sz < m -> row.length = l.length -> (∀ j, o <= j -> row.getD j [] = []) ->
  ∃ row' : List (List UInt8), fix (bW n) m (l, l, (l.length : Int), (o : Int), row, ()) = fix (bW n) (m - t.sz) (l, l, (l.length : Int), ((o + t.sz : Nat) : Int), row', ()) ∧ row'.length = row.length ∧ (∀ j, j < o -> row'.getD j [] = row.getD j []) ∧ (∀ j, o + t.sz <= j -> row'.getD j [] = []) ∧ row'.getD (o + t.sz - 1) [] = bA t := by
 have fin : ∀ (t : Pt) (o k m : Nat) (row : List (List UInt8)), At l o t -> bY t = true -> t.sz < m -> k + 1 = t.sz -> row.length = l.length -> (∀ j, o + k <= j -> row.getD j [] = []) ->
   Vn row o t ->
   ∃ row' : List (List UInt8), fix (bW n) (m - k) (l, l, (l.length : Int), ((o + k : Nat) : Int), row, ()) = fix (bW n) (m - t.sz) (l, l, (l.length : Int), ((o + t.sz : Nat) : Int), row', ()) ∧ row'.length = row.length ∧ (∀ j, j < o + k -> row'.getD j [] = row.getD j []) ∧ (∀ j, o + t.sz <= j -> row'.getD j [] = []) ∧ row'.getD (o + t.sz - 1) [] = bA t := by
  intro t o k m row h hf hm hk hr hz hc
  have hlen := h.len
  obtain ⟨row', e1, e2, e3, e4, e5⟩ := zHs (n := n) h (by omega) hm hk hr (by omega) hf (by omega) hc
  refine ⟨row', e1, e2, fun j hj => e3 j (by omega), fun j hj => by rw [e3 j (by omega)]; exact hz j (by omega), ?_⟩
  rw [show o + t.sz - 1 = o + k by omega]
  by_cases h0 : t.kind = 0
  ·rw [e5 h0, hz _ (Nat.le_refl _)]
   cases t <;> simp [Pt.kind] at h0
   rfl
  ·exact e4 h0
 have leaf : ∀ t : Pt, t.sz = 1 -> (match t with
   | .cat a b => False
   | .times a _ _ => False
   | .group a _ => False
   | _ => True) -> ∀ (o m : Nat) (row : List (List UInt8)), At l o t -> bY t = true -> t.sz < m -> row.length = l.length -> (∀ j, o <= j -> row.getD j [] = []) ->
   ∃ row' : List (List UInt8), fix (bW n) m (l, l, (l.length : Int), (o : Int), row, ()) = fix (bW n) (m - t.sz) (l, l, (l.length : Int), ((o + t.sz : Nat) : Int), row', ()) ∧ row'.length = row.length ∧ (∀ j, j < o -> row'.getD j [] = row.getD j []) ∧ (∀ j, o + t.sz <= j -> row'.getD j [] = []) ∧ row'.getD (o + t.sz - 1) [] = bA t := by
  intro t h1 hk o m row h hf hm hr hz
  have := fin t o 0 m row h hf hm (by omega) hr hz (by cases t <;> first | exact hk.elim | trivial)
  simpa using this
 intro t
 induction t with
 | empty => exact leaf .empty rfl trivial
 | bytes p => exact leaf (.bytes p) rfl trivial
 | bol => exact leaf .bol rfl trivial
 | eol => exact leaf .eol rfl trivial
 | ref k => exact leaf (.ref k) rfl trivial
 | cat a b iha ihb =>
  intro o m row h hf hm hr hz
  have hfa := hf
  simp only [bY, Bool.and_eq_true] at hfa
  have hsz : (Pt.cat a b).sz = a.sz + b.sz + 1 := rfl
  have pa := a.eB
  have pb := b.eB
  obtain ⟨r1, e1, e2, e3, e4, e5⟩ := iha o m row h.Vh.1 hfa.1 (by omega) hr hz
  obtain ⟨r2, f1, f2, f3, f4, f5⟩ := ihb (o + a.sz) (m - a.sz) r1 h.Vh.2 hfa.2 (by omega) (by omega) e4
  have := fin (.cat a b) o (a.sz + b.sz) m r2 h hf hm (by omega) (by omega) (fun j hj => f4 j (by omega)) ⟨by rw [f3 _ (by omega)]; exact e5, f5⟩
  obtain ⟨r3, g1, g2, g3, g4, g5⟩ := this
  refine ⟨r3, ?_, by omega, fun j hj => by rw [g3 j (by omega), f3 j (by omega), e3 j hj], g4, g5⟩
  rw [e1, f1, <- g1, Nat.sub_sub, Nat.add_assoc]
 | alt a b iha ihb =>
  intro o m row h hf hm hr hz
  have hfa := hf
  simp only [bY, Bool.and_eq_true] at hfa
  have hsz : (Pt.alt a b).sz = a.sz + b.sz + 1 := rfl
  have pa := a.eB
  have pb := b.eB
  obtain ⟨r1, e1, e2, e3, e4, e5⟩ := iha o m row h.alt1.1 hfa.1 (by omega) hr hz
  obtain ⟨r2, f1, f2, f3, f4, f5⟩ := ihb (o + a.sz) (m - a.sz) r1 h.alt1.2 hfa.2 (by omega) (by omega) e4
  have := fin (.alt a b) o (a.sz + b.sz) m r2 h hf hm (by omega) (by omega) (fun j hj => f4 j (by omega)) trivial
  obtain ⟨r3, g1, g2, g3, g4, g5⟩ := this
  refine ⟨r3, ?_, by omega, fun j hj => by rw [g3 j (by omega), f3 j (by omega), e3 j hj], g4, g5⟩
  rw [e1, f1, <- g1, Nat.sub_sub, Nat.add_assoc]
 | times a lo hi iha =>
  intro o m row h hf hm hr hz
  have hfa := hf
  simp only [bY, Bool.and_eq_true] at hfa
  have hsz : (Pt.times a lo hi).sz = a.sz + 1 := rfl
  have pa := a.eB
  obtain ⟨r1, e1, e2, e3, e4, e5⟩ := iha o m row h.zBt hfa.1 (by omega) hr hz
  obtain ⟨r3, g1, g2, g3, g4, g5⟩ := fin (.times a lo hi) o a.sz m r1 h hf hm (by omega) (by omega) (fun j hj => e4 j (by omega)) e5
  exact ⟨r3, by rw [e1, <- g1], by omega, fun j hj => by rw [g3 j (by omega), e3 j hj], g4, g5⟩
 | group a k iha =>
  intro o m row h hf hm hr hz
  have hfa := hf
  simp only [bY, Bool.and_eq_true] at hfa
  have hsz : (Pt.group a k).sz = a.sz + 1 := rfl
  have pa := a.eB
  obtain ⟨r1, e1, e2, e3, e4, e5⟩ := iha o m row h.zBu hfa.1 (by omega) hr hz
  obtain ⟨r3, g1, g2, g3, g4, g5⟩ := fin (.group a k) o a.sz m r1 h hf hm (by omega) (by omega) (fun j hj => e4 j (by omega)) e5
  exact ⟨r3, by rw [e1, <- g1], by omega, fun j hj => by rw [g3 j (by omega), e3 j hj], g4, g5⟩
def Tn (t : Pt) : List UInt8 × Int :=
 match jS (bA t) with
 | .inr _ => ([], 1)
 | .inl u => bif bR u == bR t then (bA t, 0) else ([], 1)
theorem zHu {s : List UInt8} {e k : Nat} (h : jS s = .inr (e, k)) : e ≠ 0 := by
 have := Td s
 rw [h] at this
 omega
theorem Mc {t : Pt} (hn : 200000 <= n) (h : uH t) : oP n (t.enc 0) = some (Tn t) := by
 unfold oP
 simp only
 rw [zEz (by omega) h]
 simp only [aH, Bool.not_true, aZ]
 have hsz := h.1
 have htp := t.eB
 have hlen := t.bL 0
 rw [aA (by rw [hlen]; simp [room]; omega), Int.toNat_natCast]
 obtain ⟨row', e1, e2, _, _, e5⟩ := zHt (n := n) (l := t.enc 0) (by omega) (by omega) t 0 n (List.replicate (t.enc 0).length []) (At.self t) h.2.1.1 (by omega) (by simp) (fun j _ => by
  rw [List.getD_eq_getElem?_getD, List.getElem?_replicate]; split <;> rfl)
 rw [show ((0 : Nat) : Int) = 0 from rfl] at e1
 rw [e1, cK (by omega), bW]
 simp only
 rw [List.length_replicate] at e2
 have hv : IntKind.wrap .i64 (((t.enc 0).length : Int) - 1) = ((0 + t.sz - 1 : Nat) : Int) := by rw [bT (by omega) (by omega)]; omega
 rw [aB (by rw [hlen]; simp), hv, aA (zNd (by omega)), Int.toNat_natCast, Nat.zero_add, aA (by simp; omega), show Ty.dflt .str = ([] : List UInt8) from rfl]
 rw [show 0 + t.sz - 1 = t.sz - 1 by omega] at e5 ⊢
 rw [e5]
 have hpl := iN t
 rw [Ca (by omega) (by omega), aH]
 unfold Tn
 cases hp : jS (bA t) with
 | inr x =>
  obtain ⟨e, k⟩ := x
  have := zHu hp
  simp only [Ey]
  rw [aF (by simp; omega)]
 | inl u =>
  simp only [Ey]
  rw [aB (by rfl), vY (by omega) (tJ hp), aH, vY (by omega) h, aH]
  cases bR u == bR t <;> rfl
end
end Go.Dec
namespace Go.Dec
def fO : Pt -> Pt -> Prop
 | .empty, .empty => True
 | .bol, .bol => True
 | .eol, .eol => True
 | .bytes p, .bytes q => aY p = aY q
 | .cat a b, .cat c d => fO a c ∧ fO b d
 | .alt a b, .alt c d => fO a c ∧ fO b d
 | .times a lo hi, .times c lo' hi' => fO a c ∧ lo = lo' ∧ hi = hi'
 | .group a _, .group c _ => fO a c
 | .ref m, .ref m' => m = m'
 | _, _ => False
theorem Vo {c : UInt8} : ∀ {a b x y : List UInt8}, c ∉ a -> c ∉ b -> a ++ c :: x = b ++ c :: y -> a = b ∧ x = y
 | [], [], x, y, _, _, h => by simpa using h
 | [], d :: b, x, y, _, hb, h => by simp at h; exact absurd h.1 (fun e => hb (by simp [e]))
 | d :: a, [], x, y, ha, _, h => by simp at h; exact absurd h.1.symm (fun e => ha (by simp [e]))
 | d :: a, e :: b, x, y, ha, hb, h => by
  simp only [List.cons_append, List.cons.injEq] at h
  obtain ⟨h1, h2⟩ := Vo (fun hm => ha (by simp [hm])) (fun hm => hb (by simp [hm])) h.2
  exact ⟨by rw [h.1, h1], h2⟩
theorem zCj : ((List.range 16).all fun i => !(hexDigit i == 93) && (List.range 16).all fun j => !(hexDigit i == hexDigit j) || i == j) = true := by decide +kernel
theorem zFa {i : Nat} (h : i < 16) : hexDigit i ≠ 93 := by
 have := oN zCj h
 simp only [Bool.and_eq_true] at this
 simpa using this.1
theorem zCk {i j : Nat} (h : i < 16) (h2 : j < 16) (e : hexDigit i = hexDigit j) : i = j := by
 have := oN zCj h
 simp only [Bool.and_eq_true] at this
 have := oN this.2 h2
 rw [e] at this
 simpa using this
theorem Da (c : UInt8) (l : List UInt8) : rA (c :: l) = hexDigit (c.toNat / 16) :: hexDigit (c.toNat % 16) :: rA l := rfl
theorem zCl : ∀ {a b x y : List UInt8}, rA a ++ 93 :: x = rA b ++ 93 :: y -> a = b ∧ x = y
 | [], [], x, y, h => by simpa [rA] using h
 | [], d :: b, x, y, h => by
  rw [Da] at h
  simp only [rA, List.flatMap_nil, List.nil_append, List.cons_append, List.cons.injEq] at h
  exact absurd h.1.symm (zFa (by have := d.toNat_lt; omega))
 | d :: a, [], x, y, h => by
  rw [Da] at h
  simp only [rA, List.flatMap_nil, List.nil_append, List.cons_append, List.cons.injEq] at h
  exact absurd h.1 (zFa (by have := d.toNat_lt; omega))
 | d :: a, e :: b, x, y, h => by
  rw [Da, Da] at h
  simp only [List.cons_append, List.cons.injEq] at h
  have hd := d.toNat_lt
  have he := e.toNat_lt
  have h1 := zCk (by omega) (by omega) h.1
  have h2 := zCk (by omega) (by omega) h.2.1
  obtain ⟨h3, h4⟩ := zCl h.2.2
  exact ⟨by rw [h3, show d = e from by rw [<- UInt8.toNat_inj]; omega], h4⟩
theorem Tp {u : Nat} (h : u < 10) : isDigit (UInt8.ofNat (48 + u)) = true ∧ (UInt8.ofNat (48 + u)).toNat = 48 + u := by
 have : (UInt8.ofNat (48 + u)).toNat = 48 + u := by rw [UInt8.toNat_ofNat']; omega
 refine ⟨?_, this⟩
 unfold isDigit
 rw [this]; simp; omega
theorem zCm : ∀ (k u : Nat), (wQ k u).all isDigit = true
 | 0, _ => rfl
 | k + 1, u => by
  unfold wQ
  split
  ·rename_i h; simp only [List.all_cons, List.all_nil, (Tp h).1]; rfl
  ·have := zCm k (u / 10)
   simp only [List.all_append, this, Bool.true_and, List.all_cons, List.all_nil, Bool.and_true]
   exact (Tp (Nat.mod_lt _ (by omega))).1
theorem zCn : ∀ (k u : Nat), u < 10 ^ k -> 1 <= k -> zO (wQ k u) = u
 | 0, _, _, h => by omega
 | k + 1, u, h, _ => by
  unfold wQ
  split
  ·rename_i h10
   have := (Tp h10).2
   simp only [zO, List.foldl_cons, List.foldl_nil]
   omega
  ·rename_i h10
   have hk : 1 <= k := by
    rcases Nat.eq_zero_or_pos k with h0 | h0
    ·subst h0; omega
    ·exact h0
   rw [Nat.pow_succ] at h
   have hm := (Tp (show u % 10 < 10 by omega)).2
   rw [zJs, zCn k (u / 10) (by omega) hk, hm]
   omega
theorem xH {k : Nat} (h : k < 1000000) : zO (dG (k : Int)) = k ∧ (dG (k : Int)).all isDigit = true := by
 have hk : k < 10 ^ 20 := Nat.lt_of_lt_of_le (show k < 10 ^ 6 by omega) (Nat.pow_le_pow_right (by omega) (by omega))
 unfold dG
 rw [if_neg (by omega), Int.toNat_natCast]
 exact ⟨zCn 20 k hk (by omega), zCm 20 k⟩
theorem Vp : dG (-1) = [45, 49] := by decide +kernel
theorem Nf {x : Int} (h1 : -1 <= x) (h2 : x < 1000000) : (44 : UInt8) ∉ dG x ∧ (59 : UInt8) ∉ dG x := by
 by_cases h : x = -1
 ·rw [h, Vp]; decide
 ·obtain ⟨k, rfl⟩ : ∃ k : Nat, x = (k : Int) := ⟨x.toNat, by omega⟩
  have := (xH (k := k) (by omega)).2
  rw [List.all_eq_true] at this
  exact ⟨fun hm => absurd (this _ hm) (by decide), fun hm => absurd (this _ hm) (by decide)⟩
theorem zCo {x y : Int} (h1 : -1 <= x) (h2 : x < 1000000) (h3 : -1 <= y) (h4 : y < 1000000) (e : dG x = dG y) : x = y := by
 by_cases hx : x = -1
 ·by_cases hy : y = -1
  ·omega
  ·obtain ⟨k, rfl⟩ : ∃ k : Nat, y = (k : Int) := ⟨y.toNat, by omega⟩
   have := (xH (k := k) (by omega)).2
   rw [<- e, hx, Vp] at this
   exact absurd this (by decide)
 ·by_cases hy : y = -1
  ·obtain ⟨k, rfl⟩ : ∃ k : Nat, x = (k : Int) := ⟨x.toNat, by omega⟩
   have := (xH (k := k) (by omega)).2
   rw [e, hy, Vp] at this
   exact absurd this (by decide)
  ·obtain ⟨k, rfl⟩ : ∃ k : Nat, x = (k : Int) := ⟨x.toNat, by omega⟩
   obtain ⟨j, rfl⟩ : ∃ k : Nat, y = (k : Int) := ⟨y.toNat, by omega⟩
   have a := (xH (k := k) (by omega)).1
   have b := (xH (k := j) (by omega)).1
   rw [e, b] at a
   omega
theorem Qj {m : Nat} (h : m < 10) : dG (m : Int) = [UInt8.ofNat (48 + m)] := by
 unfold dG
 rw [if_neg (by omega), Int.toNat_natCast]
 unfold wQ
 rw [if_pos h]
theorem zNe : ∀ (t u : Pt) (x y : List UInt8), bY t = true -> bY u = true -> bR t ++ x = bR u ++ y -> fO t u ∧ x = y := by
 intro t
 induction t with
 | empty => intro u x y _ _ h; cases u <;> simp [bR] at h; exact ⟨trivial, h⟩
 | bol => intro u x y _ _ h; cases u <;> simp [bR] at h; exact ⟨trivial, h⟩
 | eol => intro u x y _ _ h; cases u <;> simp [bR] at h; exact ⟨trivial, h⟩
 | bytes p =>
  intro u x y _ _ h
  cases u <;> simp [bR] at h
  exact zCl h
 | ref m =>
  intro u x y ht hu h
  cases u <;> simp [bR] at h
  rename_i m'
  simp only [bY, Bool.and_eq_true, decide_eq_true_eq] at ht hu
  rw [Qj (by omega), Qj (by omega)] at h
  simp only [List.cons_append, List.nil_append, List.cons.injEq] at h
  have := congrArg UInt8.toNat h.1
  rw [UInt8.toNat_ofNat', UInt8.toNat_ofNat'] at this
  exact ⟨show m = m' by omega, h.2⟩
 | cat a b iha ihb =>
  intro u x y ht hu h
  cases u <;> simp [bR] at h
  simp only [bY, Bool.and_eq_true] at ht hu
  obtain ⟨h1, h2⟩ := iha _ _ _ ht.1 hu.1 h
  obtain ⟨h3, h4⟩ := ihb _ _ _ ht.2 hu.2 h2
  exact ⟨⟨h1, h3⟩, h4⟩
 | alt a b iha ihb =>
  intro u x y ht hu h
  cases u <;> simp [bR] at h
  simp only [bY, Bool.and_eq_true] at ht hu
  obtain ⟨h1, h2⟩ := iha _ _ _ ht.1 hu.1 h
  obtain ⟨h3, h4⟩ := ihb _ _ _ ht.2 hu.2 h2
  exact ⟨⟨h1, h3⟩, h4⟩
 | times a lo hi iha =>
  intro u x y ht hu h
  cases u <;> simp [bR] at h
  rename_i c lo' hi'
  simp only [bY, iT, Bool.and_eq_true, Bool.or_eq_true, decide_eq_true_eq] at ht hu
  have n1 := Nf (x := lo) (by omega) (by omega)
  have n2 := Nf (x := lo') (by omega) (by omega)
  have n3 := Nf (x := hi) (by omega) (by omega)
  have n4 := Nf (x := hi') (by omega) (by omega)
  obtain ⟨h1, h2⟩ := Vo n1.1 n2.1 h
  obtain ⟨h3, h4⟩ := Vo n3.2 n4.2 h2
  obtain ⟨h5, h6⟩ := iha _ _ _ ht.1 hu.1 h4
  exact ⟨⟨h5, zCo (by omega) (by omega) (by omega) (by omega) h1, zCo (by omega) (by omega) (by omega) (by omega) h3⟩, h6⟩
 | group a m iha =>
  intro u x y ht hu h
  cases u <;> simp [bR] at h
  simp only [bY, Bool.and_eq_true] at ht hu
  obtain ⟨h1, h2⟩ := iha _ _ _ ht.1 hu.1 h
  simp only [List.cons.injEq, true_and] at h2
  exact ⟨h1, h2⟩
theorem vC {t : Pt} {g : Nat} {i : Bool} {e : List Bool} {r : Bool} (h : (aM t (g, i, e, r)).2.1 = true) : i = true ∧ (aM t (g, true, e, r)).2.1 = true := by
 have := uT t g true i e r
 rw [Bool.true_and] at this
 rw [this] at h
 simp only [Bool.and_eq_true] at h
 exact ⟨h.2, h.1⟩
theorem zNf {p q : Nat -> Bool} (h : aY p = aY q) : wd p = wd q := qV fun i hi => by
 have h1 := wB (p := p) hi
 have h2 := wB (p := q) hi
 rw [h] at h1
 rw [Bool.eq_iff_iff, h1, h2]
theorem zKg : ∀ (t u : Pt) (o g : Nat) (e e' : List Bool) (r r' : Bool), fO t u -> (aM t (g, true, e, r)).2.1 = true -> (aM u (g, true, e', r')).2.1 = true -> t.enc o = u.enc o ∧ (aM t (g, true, e, r)).1 = (aM u (g, true, e', r')).1 := by
 intro t
 induction t with
 | empty => intro u o g e e' r r' h _ _; cases u <;> simp only [fO] at h; exact ⟨rfl, rfl⟩
 | bol => intro u o g e e' r r' h _ _; cases u <;> simp only [fO] at h; exact ⟨rfl, rfl⟩
 | eol => intro u o g e e' r r' h _ _; cases u <;> simp only [fO] at h; exact ⟨rfl, rfl⟩
 | bytes p => intro u o g e e' r r' h _ _; cases u <;> simp only [fO] at h; exact ⟨by simp only [Pt.enc, zNf h], rfl⟩
 | ref m => intro u o g e e' r r' h _ _; cases u <;> simp only [fO] at h; subst h; exact ⟨rfl, rfl⟩
 | cat a b iha ihb =>
  intro u o g e e' r r' h h1 h2
  cases u <;> simp only [fO] at h
  rename_i c d
  simp only [aM] at h1 h2 ⊢
  have m1 := vC (t := b) (g := (aM a (g, true, e, r)).1) (i := (aM a (g, true, e, r)).2.1) (e := (aM a (g, true, e, r)).2.2.1) (r := (aM a (g, true, e, r)).2.2.2) h1
  have m2 := vC (t := d) (g := (aM c (g, true, e', r')).1) (i := (aM c (g, true, e', r')).2.1) (e := (aM c (g, true, e', r')).2.2.1) (r := (aM c (g, true, e', r')).2.2.2) h2
  obtain ⟨k1, k2⟩ := iha c o g e e' r r' h.1 m1.1 m2.1
  have hs : a.sz = c.sz := by have := congrArg List.length k1; rwa [Pt.bL, Pt.bL] at this
  have m1' := m1.2
  rw [k2] at m1'
  obtain ⟨k3, k4⟩ := ihb d (o + a.sz) _ _ (aM c (g, true, e', r')).2.2.1 _ (aM c (g, true, e', r')).2.2.2 h.2 m1' m2.2
  have hs2 : b.sz = d.sz := by have := congrArg List.length k3; rwa [Pt.bL, Pt.bL] at this
  have e1 : aM a (g, true, e, r) = ((aM c (g, true, e', r')).1, true, (aM a (g, true, e, r)).2.2.1, (aM a (g, true, e, r)).2.2.2) := Prod.ext k2 (Prod.ext m1.1 (Prod.ext rfl rfl))
  have e2 : aM c (g, true, e', r') = ((aM c (g, true, e', r')).1, true, (aM c (g, true, e', r')).2.2.1, (aM c (g, true, e', r')).2.2.2) := Prod.ext rfl (Prod.ext m2.1 (Prod.ext rfl rfl))
  refine ⟨?_, ?_⟩
  ·simp only [Pt.enc, Pt.top, k1, hs, hs2]
   rw [hs] at k3
   rw [k3]
  ·rw [e1, k4, <- e2]
 | alt a b iha ihb =>
  intro u o g e e' r r' h h1 h2
  cases u <;> simp only [fO] at h
  rename_i c d
  simp only [aM] at h1 h2 ⊢
  have m1 := vC (t := b) (g := (aM a (g, true, e, r)).1) (i := (aM a (g, true, e, r)).2.1) (e := (aM a (g, true, e, r)).2.2.1) (r := (aM a (g, true, e, r)).2.2.2) h1
  have m2 := vC (t := d) (g := (aM c (g, true, e', r')).1) (i := (aM c (g, true, e', r')).2.1) (e := (aM c (g, true, e', r')).2.2.1) (r := (aM c (g, true, e', r')).2.2.2) h2
  obtain ⟨k1, k2⟩ := iha c o g e e' r r' h.1 m1.1 m2.1
  have hs : a.sz = c.sz := by have := congrArg List.length k1; rwa [Pt.bL, Pt.bL] at this
  have m1' := m1.2
  rw [k2] at m1'
  obtain ⟨k3, k4⟩ := ihb d (o + a.sz) _ _ (aM c (g, true, e', r')).2.2.1 _ (aM c (g, true, e', r')).2.2.2 h.2 m1' m2.2
  have hs2 : b.sz = d.sz := by have := congrArg List.length k3; rwa [Pt.bL, Pt.bL] at this
  have e1 : aM a (g, true, e, r) = ((aM c (g, true, e', r')).1, true, (aM a (g, true, e, r)).2.2.1, (aM a (g, true, e, r)).2.2.2) := Prod.ext k2 (Prod.ext m1.1 (Prod.ext rfl rfl))
  have e2 : aM c (g, true, e', r') = ((aM c (g, true, e', r')).1, true, (aM c (g, true, e', r')).2.2.1, (aM c (g, true, e', r')).2.2.2) := Prod.ext rfl (Prod.ext m2.1 (Prod.ext rfl rfl))
  refine ⟨?_, ?_⟩
  ·simp only [Pt.enc, Pt.top, k1, hs, hs2]
   rw [hs] at k3
   rw [k3]
  ·rw [e1, k4, <- e2]
 | times a lo hi iha =>
  intro u o g e e' r r' h h1 h2
  cases u <;> simp only [fO] at h
  rename_i c lo' hi'
  obtain ⟨h, rfl, rfl⟩ := h
  simp only [aM] at h1 h2 ⊢
  obtain ⟨k1, k2⟩ := iha c o g e e' r r' h h1 h2
  have hs : a.sz = c.sz := by have := congrArg List.length k1; rwa [Pt.bL, Pt.bL] at this
  exact ⟨by simp only [Pt.enc, Pt.top, k1, hs], k2⟩
 | group a m iha =>
  intro u o g e e' r r' h h1 h2
  cases u <;> simp only [fO] at h
  rename_i c m'
  simp only [aM, Bool.true_and] at h1 h2 ⊢
  have m1 := vC h1
  have m2 := vC h2
  have e1 := of_decide_eq_true m1.1
  have e2 := of_decide_eq_true m2.1
  subst e1
  subst e2
  obtain ⟨k1, k2⟩ := iha c o (g + 1) e e' r r' h m1.2 m2.2
  have hs : a.sz = c.sz := by have := congrArg List.length k1; rwa [Pt.bL, Pt.bL] at this
  refine ⟨by simp only [Pt.enc, Pt.top, k1, hs], ?_⟩
  simp only [decide_true]
  exact k2
theorem zNg {t u : Pt} (ht : uH t) (hu : uH u) : bR t = bR u <-> t.enc 0 = u.enc 0 := by
 constructor
 ·intro h
  obtain ⟨h1, _⟩ := zNe t u [] [] ht.2.1.1 hu.2.1.1 (by rw [h])
  exact (zKg t u 0 0 lX lX false false h1 ht.2.2 hu.2.2).1
 ·intro h
  have a := vY (n := 1000) (by omega) ht
  have b := vY (n := 1000) (by omega) hu
  rw [h, b] at a
  exact (Option.some.inj a).symm
theorem zKh : pY 200000 () = some true := by decide +kernel
end Go.Dec
namespace Go.Dec
def BK (first : Bool) (acc : Nat -> Bool) (r : List UInt8) (S : Nat -> Bool) (k : Nat) : Prop :=
 ∃ x, (∀ f, r.length < f -> uR f first acc r = some (x, k)) ∧ ∀ j, j < 256 -> x j = (acc j || S j)
theorem BK.end {acc : Nat -> Bool} {r : List UInt8} : BK false acc (93 :: r) (fun _ => false) 1 := by
 refine ⟨acc, fun f hf => ?_, fun j _ => by simp⟩
 obtain ⟨f, rfl⟩ : ∃ k, f = k + 1 := ⟨f - 1, by simp at hf; omega⟩
 rfl
theorem BK.step {first : Bool} {acc p S T : Nat -> Bool} {r r' : List UInt8} {k1 k : Nat} (hno : ([93].isPrefixOf r && !first) = false) (hp : oD first r = some (p, k1)) (hr : r.drop k1 = r') (h : BK false (fun j => acc j || p j) r' S k) (hT : ∀ j, j < 256 -> T j = (p j || S j)) : BK first acc r T (k1 + k) := by
 obtain ⟨x, h1, h2⟩ := h
 have hl := Lm hp
 refine ⟨x, fun f hf => ?_, fun j hj => ?_⟩
 ·obtain ⟨f, rfl⟩ : ∃ k, f = k + 1 := ⟨f - 1, by omega⟩
  unfold uR
  rw [hno, hp]
  simp only [cond_false]
  rw [hr, h1 f (by rw [<- hr, List.length_drop]; omega)]
 ·rw [h2 j hj, hT j hj, Bool.or_assoc]
def ND (r : List UInt8) : Bool := !([45].isPrefixOf r && !([45, 93].isPrefixOf r))
theorem Fa {c : UInt8} {r : List UInt8} (h : c ≠ 45) : ND (c :: r) = true := by
 have : [45].isPrefixOf (c :: r) = false := by simp [List.isPrefixOf, Ne.symm h]
 unfold ND; rw [this]; rfl
theorem sD {first may : Bool} {a : UInt8} {k : Nat} {r : List UInt8} (h1 : [91, 58].isPrefixOf r = false) (h2 : oC first false r = some (a, k, may)) (h3 : ND (r.drop k) = true) : oD first r = some (aP a.toNat a.toNat, k) := by
 unfold oD
 rw [h1, h2]
 unfold ND at h3
 simp only [Bool.not_eq_true', cond_false] at h3 ⊢
 rw [h3, Bool.false_and]; rfl
theorem Qk {c : UInt8} (h : eG.contains c = false) : c ≠ 93 ∧ c ≠ 91 ∧ c ≠ 92 ∧ c ≠ 94 ∧ c ≠ 45 ∧ c ≠ 10 := by
 simpa [eG, List.contains_cons] using h
theorem Hq {first ends : Bool} {c : UInt8} {r : List UInt8} (h : eG.contains c = false) : oC first ends (c :: r) = some (c, 1, true) := by
 have h2 : c ≠ 93 ∧ c ≠ 91 ∧ c ≠ 92 ∧ c ≠ 94 ∧ c ≠ 45 ∧ c ≠ 10 := by
  simpa [eG, List.contains_cons] using h
 obtain ⟨h93, h91, h92, _, h45, _⟩ := h2
 have e1 : ∀ a : UInt8, [91, a].isPrefixOf (c :: r) = false := fun a => by simp [List.isPrefixOf, Ne.symm h91]
 have e2 : [92, 110].isPrefixOf (c :: r) = false := by simp [List.isPrefixOf, Ne.symm h92]
 have e3 : [93].isPrefixOf (c :: r) = false := by simp [List.isPrefixOf, Ne.symm h93]
 have e4 : [45].isPrefixOf (c :: r) = false := by simp [List.isPrefixOf, Ne.symm h45]
 unfold oC
 rw [e1, e1, e2, e1, e3, e4]; rfl
theorem Hr {c : UInt8} {r : List UInt8} (h : eG.contains c = false) : [91, 58].isPrefixOf (c :: r) = false ∧ [93].isPrefixOf (c :: r) = false := by
 have h2 : c ≠ 93 ∧ c ≠ 91 ∧ c ≠ 92 ∧ c ≠ 94 ∧ c ≠ 45 ∧ c ≠ 10 := by
  simpa [eG, List.contains_cons] using h
 exact ⟨by simp [List.isPrefixOf, Ne.symm h2.2.1], by simp [List.isPrefixOf, Ne.symm h2.1]⟩
theorem zHv {first : Bool} {c : UInt8} {r : List UInt8} (h : eG.contains c = false) (hr : ND r = true) : oD first (c :: r) = some (aP c.toNat c.toNat, 1) :=
 sD (Hr h).1 (Hq h) hr
theorem zHw {first : Bool} {c d : UInt8} {r : List UInt8} (h : eG.contains c = false) (hd : eG.contains d = false) (hcd : c.toNat <= d.toNat) : oD first (c :: 45 :: d :: r) = some (aP c.toNat d.toNat, 3) := by
 have h93 : d ≠ 93 := (Qk hd).1
 unfold oD
 rw [(Hr h).1, Hq h]
 simp only [cond_false, List.drop_succ_cons, List.drop_zero]
 rw [show [45].isPrefixOf (45 :: d :: r) = true by simp [List.isPrefixOf], show [45, 93].isPrefixOf (45 :: d :: r) = false by simp [List.isPrefixOf, Ne.symm h93]]
 rw [Hq hd]
 simp [Nat.not_lt.2 hcd]
theorem range_one {c : UInt8} {j : Nat} : aP c.toNat c.toNat j = decide (j = c.toNat) := by
 unfold aP; rw [Bool.eq_iff_iff]; simp; omega
def t5 (r : List UInt8) : List UInt8 := 93 :: r
def t4 (p : Nat -> Bool) (r : List UInt8) : List UInt8 := (bif p 45 then [45] else []) ++ t5 r
def t3 (p : Nat -> Bool) (r : List UInt8) : List UInt8 := (bif p 94 then [94] else []) ++ t4 p r
def t2 (p : Nat -> Bool) (r : List UInt8) : List UInt8 := (bif p 92 then [92] else []) ++ t3 p r
def t1 (p : Nat -> Bool) (r : List UInt8) : List UInt8 := (bif p 91 then [91] else []) ++ t2 p r
def t0 (p : Nat -> Bool) (r : List UInt8) : List UInt8 := (bif p 10 then [92, 110] else []) ++ t1 p r
theorem zPs (p : Nat -> Bool) (r : List UInt8) : vZ p ++ r = t0 p r := by
 simp only [vZ, t0, t1, t2, t3, t4, t5, List.append_assoc, List.singleton_append]
theorem nd4 {p : Nat -> Bool} {r : List UInt8} : ND (t4 p r) = true := by
 unfold t4 t5; cases p 45 <;> rfl
theorem nd3 {p : Nat -> Bool} {r : List UInt8} : ND (t3 p r) = true := by
 unfold t3; cases p 94
 ·exact nd4
 ·exact Fa (by decide)
theorem nd2 {p : Nat -> Bool} {r : List UInt8} : ND (t2 p r) = true := by
 unfold t2; cases p 92
 ·exact nd3
 ·exact Fa (by decide)
theorem nd1 {p : Nat -> Bool} {r : List UInt8} : ND (t1 p r) = true := by
 unfold t1; cases p 91
 ·exact nd2
 ·exact Fa (by decide)
theorem nd0 {p : Nat -> Bool} {r : List UInt8} : ND (t0 p r) = true := by
 unfold t0; cases p 10
 ·exact nd1
 ·exact Fa (by decide)
theorem zSq {p : Nat -> Bool} {r : List UInt8} : ∃ c s, t4 p r = c :: s ∧ (c = 45 ∨ c = 93) := by
 unfold t4 t5; cases p 45 <;> exact ⟨_, _, rfl, by simp⟩
theorem zOj {p : Nat -> Bool} {r : List UInt8} : ∃ c s, t3 p r = c :: s ∧ (c = 94 ∨ c = 45 ∨ c = 93) := by
 unfold t3; cases p 94
 ·obtain ⟨c, s, h, hc⟩ := @zSq p r; exact ⟨c, s, h, Or.inr hc⟩
 ·exact ⟨_, _, rfl, Or.inl rfl⟩
theorem zSr {p : Nat -> Bool} {r : List UInt8} : ∃ c s, t2 p r = c :: s ∧ (c = 92 ∨ c = 94 ∨ c = 45 ∨ c = 93) := by
 unfold t2; cases p 92
 ·obtain ⟨c, s, h, hc⟩ := @zOj p r; exact ⟨c, s, h, Or.inr hc⟩
 ·exact ⟨_, _, rfl, Or.inl rfl⟩
theorem bk4 {first : Bool} {acc p : Nat -> Bool} {r : List UInt8} (hf : first = true -> p 45 = true) : BK first acc (t4 p r) (fun j => p j && decide (j = 45)) ((t4 p r).length - r.length) := by
 unfold t4
 cases h : p 45
 ·have hff : first = false := by cases first; rfl; exact absurd (hf rfl) (by simp [h])
  subst hff
  obtain ⟨x, h1, h2⟩ := BK.end (acc := acc) (r := r)
  refine ⟨x, ?_, fun j hj => ?_⟩
  ·intro f hf
   have := h1 f hf
   simpa [t5] using this
  ·rw [h2 j hj]
   by_cases hj2 : j = 45
   ·subst hj2; simp [h]
   ·simp [hj2]
 ·have hp : oD first (45 :: t5 r) = some (aP 45 45, 1) := by
   refine sD (a := 45) (may := true) rfl ?_ rfl
   unfold oC
   cases first <;> rfl
  have := BK.step (first := first) (acc := acc) (T := fun j => p j && decide (j = 45)) (by rfl) hp (r' := t5 r) rfl BK.end (fun j hj => by
   show _ = (aP 45 45 j || false)
   have e := @range_one 45 j
   rw [show (45 : UInt8).toNat = 45 from rfl] at e
   rw [e]
   by_cases hj2 : j = 45
   ·subst hj2; simp [h]
   ·simp [hj2])
  have hlen : (([45] ++ t5 r).length - r.length) = 1 + 1 := by simp [t5]; omega
  simp only [cond_true, hlen]
  exact this
theorem Tq {first : Bool} {acc p S : Nat -> Bool} {c : UInt8} {r r' w : List UInt8} {k : Nat} (hw : w.length = k ∧ (w ++ r').drop k = r')
  (hpart : ∀ first, oD first (w ++ r') = some (aP c.toNat c.toNat, k)) (h93 : [93].isPrefixOf (w ++ r') = false)
  (hsub : ∀ (first : Bool) (acc : Nat -> Bool), (first = true -> p c.toNat = false -> False ∨ True) -> True)
  (hf : BK false (fun j => acc j || aP c.toNat c.toNat j) r' S (r'.length - r.length)) (ht : BK first acc r' S (r'.length - r.length) ∨ p c.toNat = true) (hrl : r.length <= r'.length) :
  BK first acc ((bif p c.toNat then w else []) ++ r') (fun j => (p j && decide (j = c.toNat)) || S j) (((bif p c.toNat then w else []) ++ r').length - r.length) := by
 cases h : p c.toNat
 ·rcases ht with ht | ht
  ·obtain ⟨x, h1, h2⟩ := ht
   refine ⟨x, fun f hf => h1 f hf, fun j hj => ?_⟩
   rw [h2 j hj]
   by_cases hj2 : j = c.toNat
   ·subst hj2; simp [h]
   ·simp [hj2]
  ·rw [h] at ht; simp at ht
 ·simp only [cond_true]
  have := BK.step (first := first) (acc := acc) (T := fun j => (p j && decide (j = c.toNat)) || S j) (by rw [h93]; rfl) (hpart first) hw.2 hf (fun j hj => by
   rw [range_one]
   by_cases hj2 : j = c.toNat
   ·subst hj2; simp [h]
   ·simp [hj2])
  rw [List.length_append, hw.1, show k + r'.length - r.length = k + (r'.length - r.length) by omega]
  exact this
theorem zRz {p : Nat -> Bool} {r : List UInt8} : r.length <= (t4 p r).length := by unfold t4 t5; simp; omega
theorem zSa {p : Nat -> Bool} {r : List UInt8} : r.length <= (t3 p r).length := by unfold t3; have := @zRz p r; simp; omega
theorem len2 {p : Nat -> Bool} {r : List UInt8} : r.length <= (t2 p r).length := by unfold t2; have := @zSa p r; simp; omega
theorem len1 {p : Nat -> Bool} {r : List UInt8} : r.length <= (t1 p r).length := by unfold t1; have := @len2 p r; simp; omega
theorem zKv {p : Nat -> Bool} {r : List UInt8} : r.length <= (t0 p r).length := by unfold t0; have := @len1 p r; simp; omega
theorem bk3 {first : Bool} {acc p : Nat -> Bool} {r : List UInt8} (hf : first = true -> p 94 = true ∨ p 45 = true) : BK first acc (t3 p r) (fun j => (p j && decide (j = 94)) || (p j && decide (j = 45))) ((t3 p r).length - r.length) := by
 refine Tq (c := 94) (w := [94]) (k := 1) ⟨rfl, rfl⟩ (fun first => sD (may := true) rfl (by cases first <;> rfl) nd4) rfl (fun _ _ _ => trivial) (bk4 (by simp)) ?_ zRz
 cases h : p 94
 ·left; exact bk4 (fun hh => by rcases hf hh with h2 | h2; rw [h] at h2; simp at h2; exact h2)
 ·right; exact h
theorem bk2 {first : Bool} {acc p : Nat -> Bool} {r : List UInt8} (hf : first = true -> p 92 = true ∨ p 94 = true ∨ p 45 = true) : BK first acc (t2 p r) (fun j => (p j && decide (j = 92)) || ((p j && decide (j = 94)) || (p j && decide (j = 45)))) ((t2 p r).length - r.length) := by
 have hn : [92, 110].isPrefixOf (92 :: t3 p r) = false := by
  obtain ⟨c, s, h, hc⟩ := @zOj p r
  rw [h]
  rcases hc with rfl | rfl | rfl <;> rfl
 refine Tq (c := 92) (w := [92]) (k := 1) ⟨rfl, rfl⟩ (fun first => sD (may := true) rfl (by
  unfold oC
  rw [show ([92] ++ t3 p r) = 92 :: t3 p r from rfl, hn]
  cases first <;> rfl) nd3) rfl (fun _ _ _ => trivial) (bk3 (by simp)) ?_ zSa
 cases h : p 92
 ·left; exact bk3 (fun hh => by rcases hf hh with h2 | h2; rw [h] at h2; simp at h2; exact h2)
 ·right; exact h
theorem bk1 {first : Bool} {acc p : Nat -> Bool} {r : List UInt8} (hf : first = true -> p 91 = true ∨ p 92 = true ∨ p 94 = true ∨ p 45 = true) : BK first acc (t1 p r) (fun j => (p j && decide (j = 91)) || ((p j && decide (j = 92)) || ((p j && decide (j = 94)) || (p j && decide (j = 45))))) ((t1 p r).length - r.length) := by
 have hn : ∀ a : UInt8, a = 46 ∨ a = 61 ∨ a = 58 -> [91, a].isPrefixOf (91 :: t2 p r) = false := by
  intro a ha
  obtain ⟨c, s, h, hc⟩ := @zSr p r
  rw [h]
  rcases ha with rfl | rfl | rfl <;> rcases hc with rfl | rfl | rfl | rfl <;> rfl
 refine Tq (c := 91) (w := [91]) (k := 1) ⟨rfl, rfl⟩ (fun first => sD (may := true) (hn 58 (by simp)) (by
  unfold oC
  rw [show ([91] ++ t2 p r) = 91 :: t2 p r from rfl, hn 46 (by simp), hn 61 (by simp), hn 58 (by simp)]
  cases first <;> rfl) nd2) rfl (fun _ _ _ => trivial) (bk2 (by simp)) ?_ len2
 cases h : p 91
 ·left; exact bk2 (fun hh => by rcases hf hh with h2 | h2; rw [h] at h2; simp at h2; exact h2)
 ·right; exact h
def wC (p : Nat -> Bool) : Nat -> Bool := fun j => (p j && decide (j = 10)) || ((p j && decide (j = 91)) || ((p j && decide (j = 92)) || ((p j && decide (j = 94)) || (p j && decide (j = 45)))))
theorem bk0 {first : Bool} {acc p : Nat -> Bool} {r : List UInt8} (hf : first = true -> p 10 = true ∨ p 91 = true ∨ p 92 = true ∨ p 94 = true ∨ p 45 = true) : BK first acc (t0 p r) (wC p) ((t0 p r).length - r.length) := by
 refine Tq (c := 10) (w := [92, 110]) (k := 2) ⟨rfl, rfl⟩ (fun first => sD (may := true) rfl (by cases first <;> rfl) nd1) rfl (fun _ _ _ => trivial) (bk1 (by simp)) ?_ len1
 cases h : p 10
 ·left; exact bk1 (fun hh => by rcases hf hh with h2 | h2; rw [h] at h2; simp at h2; exact h2)
 ·right; exact h
theorem xW {p : Nat -> Bool} {i : Nat} (h : aS p i = true) : eG.contains (UInt8.ofNat i) = false := by
 unfold aS at h
 simp only [Bool.and_eq_true, Bool.not_eq_true'] at h
 exact h.2
theorem Vq {p : Nat -> Bool} {r : List UInt8} (hr : ND r = true) : ∀ (f i : Nat), ND (dH (aS p) f i ++ r) = true
 | 0, i => hr
 | f + 1, i => by
  unfold dH
  split
  ·cases hq : aS p i
   ·exact Vq hr f (i + 1)
   ·have h2 := xW hq
    have h45 : UInt8.ofNat i ≠ 45 := (Qk h2).2.2.2.2.1
    simp only [cond_true]
    cases decide (i + 2 <= sP (aS p) 256 i) <;> exact Fa h45
  ·exact hr
theorem zPt {p S : Nat -> Bool} {T r : List UInt8} (hT : ND T = true) (hrl : r.length <= T.length) (hS : ∀ (first : Bool) (acc : Nat -> Bool), (first = true -> ∃ j, j < 256 ∧ S j = true) -> BK first acc T S (T.length - r.length)) :
  ∀ (d i f : Nat) (first : Bool) (acc : Nat -> Bool), 256 - i <= d -> 256 - i < f -> (first = true -> (∃ j, j < 256 ∧ S j = true) ∨ ∃ j, i <= j ∧ j < 256 ∧ aS p j = true) ->
   BK first acc (dH (aS p) f i ++ T) (fun j => (aS p j && decide (i <= j)) || S j) ((dH (aS p) f i ++ T).length - r.length) := by
 intro d
 induction d with
 | zero =>
  intro i f first acc h1 h2 hf
  obtain ⟨f, rfl⟩ : ∃ k, f = k + 1 := ⟨f - 1, by omega⟩
  rw [dH, if_neg (by omega), List.nil_append]
  obtain ⟨x, k1, k2⟩ := hS first acc (fun hh => by rcases hf hh with h | ⟨j, a, b, _⟩; exact h; omega)
  exact ⟨x, k1, fun j hj => by show x j = (acc j || ((aS p j && decide (i <= j)) || S j)); rw [k2 j hj, decide_eq_false (show ¬ i <= j by omega)]; simp⟩
 | succ d ih =>
  intro i f first acc h1 h2 hf
  obtain ⟨f, rfl⟩ : ∃ k, f = k + 1 := ⟨f - 1, by omega⟩
  by_cases hi : i < 256
  case neg =>
   rw [dH, if_neg hi, List.nil_append]
   obtain ⟨x, k1, k2⟩ := hS first acc (fun hh => by rcases hf hh with h | ⟨j, a, b, _⟩; exact h; omega)
   exact ⟨x, k1, fun j hj => by show x j = (acc j || ((aS p j && decide (i <= j)) || S j)); rw [k2 j hj, decide_eq_false (show ¬ i <= j by omega)]; simp⟩
  rw [dH, if_pos hi]
  cases hq : aS p i
  ·simp only [cond_false]
   obtain ⟨x, k1, k2⟩ := ih (i + 1) f first acc (by omega) (by omega) (fun hh => by
    rcases hf hh with h | ⟨j, a, b, c⟩
    ·exact Or.inl h
    ·right
     refine ⟨j, ?_, b, c⟩
     have : j ≠ i := fun e => by rw [e, hq] at c; simp at c
     omega)
   refine ⟨x, k1, fun j hj => ?_⟩
   rw [k2 j hj]
   show (acc j || ((aS p j && decide (i + 1 <= j)) || S j)) = (acc j || ((aS p j && decide (i <= j)) || S j))
   by_cases hj2 : j = i
   ·subst hj2; simp [hq]
   ·rw [show decide (i + 1 <= j) = decide (i <= j) from decide_eq_decide.2 (by omega)]
  ·simp only [cond_true]
   have hap := xW hq
   have hti : (UInt8.ofNat i).toNat = i := by rw [UInt8.toNat_ofNat']; omega
   obtain ⟨a1, a2, a3, a4⟩ := Ma (aS p) 256 i hi (by omega)
   generalize hk : sP (aS p) 256 i = k at *
   have htk : (UInt8.ofNat k).toNat = k := by rw [UInt8.toNat_ofNat']; omega
   by_cases h3 : i + 2 <= k
   ·rw [decide_eq_true h3]
    simp only [cond_true]
    have hpk : aS p k = true := a3 k (by omega) (Nat.le_refl _)
    have := BK.step (first := first) (acc := acc) (r := [UInt8.ofNat i, 45, UInt8.ofNat k] ++ dH (aS p) f (k + 1) ++ T) (r' := dH (aS p) f (k + 1) ++ T) (T := fun j => (aS p j && decide (i <= j)) || S j) (by
     show ([93].isPrefixOf (UInt8.ofNat i :: _) && !first) = false
     rw [(Hr hap).2]; rfl) (zHw hap (xW hpk) (by rw [hti, htk]; omega)) rfl (ih (k + 1) f false _ (by omega) (by omega) (by simp)) (fun j hj => by
     rw [hti, htk]
     unfold aP
     by_cases b1 : i <= j
     ·by_cases b2 : j <= k
      ·have hpj : aS p j = true := by
        by_cases b3 : j = i
        ·rw [b3]; exact hq
        ·exact a3 j (by omega) b2
       simp [b1, b2, hpj]
      ·rw [show decide (k + 1 <= j) = true from decide_eq_true (by omega)]; simp [b1, b2]
     ·rw [show decide (k + 1 <= j) = false from decide_eq_false (by omega)]; simp [b1])
    have hl : ([UInt8.ofNat i, 45, UInt8.ofNat k] ++ dH (aS p) f (k + 1) ++ T).length - r.length = 3 + ((dH (aS p) f (k + 1) ++ T).length - r.length) := by
     simp only [List.length_append, List.length_cons, List.length_nil]; omega
    rw [hl]
    exact this
   ·rw [decide_eq_false h3]
    simp only [cond_false]
    have := BK.step (first := first) (acc := acc) (r := [UInt8.ofNat i] ++ dH (aS p) f (i + 1) ++ T) (r' := dH (aS p) f (i + 1) ++ T) (T := fun j => (aS p j && decide (i <= j)) || S j) (by
     show ([93].isPrefixOf (UInt8.ofNat i :: _) && !first) = false
     rw [(Hr hap).2]; rfl) (zHv hap (Vq hT f (i + 1))) rfl (ih (i + 1) f false _ (by omega) (by omega) (by simp)) (fun j hj => by
     rw [hti]
     unfold aP
     by_cases b1 : j = i
     ·subst b1; simp [hq]
     ·rw [show decide (i + 1 <= j) = decide (i <= j) from decide_eq_decide.2 (by omega)]
      have : (decide (i <= j) && decide (j <= i)) = false := by simp; omega
      rw [this]; simp)
    have hl : ([UInt8.ofNat i] ++ dH (aS p) f (i + 1) ++ T).length - r.length = 1 + ((dH (aS p) f (i + 1) ++ T).length - r.length) := by
     simp only [List.length_append, List.length_cons, List.length_nil]; omega
    rw [hl]
    exact this
end Go.Dec
namespace Go.Dec
theorem Md {p q : Nat -> Bool} (h : ∀ i, i < 256 -> p i = q i) : aY p = aY q := by
 unfold aY
 rw [List.filter_congr (fun x hx => h x (by simpa using hx))]
theorem Me {p : Nat -> Bool} (h : 2 <= (aY p).length) (c : Nat) : ∃ j, j < 256 ∧ j ≠ c ∧ p j = true := by
 unfold aY at h
 rw [List.length_map] at h
 have hpw : ((List.range 256).filter p).Pairwise (· < ·) := List.pairwise_lt_range.filter p
 have hm : ∀ x ∈ (List.range 256).filter p, x < 256 ∧ p x = true := fun x hx => by simpa using hx
 match hl : (List.range 256).filter p, h with
 | a :: b :: l, _ =>
  rw [hl] at hpw hm
  have hab : a < b := (List.pairwise_cons.1 hpw).1 b (by simp)
  have ha := hm a (by simp)
  have hb := hm b (by simp)
  by_cases e : a = c
  ·exact ⟨b, hb.1, by omega, hb.2⟩
  ·exact ⟨a, ha.1, e, ha.2⟩
theorem Tt {p : Nat -> Bool} : dS p = true <-> ∀ i, i < 256 -> p i = false := by
 unfold dS; simp
theorem Mf {j : Nat} (hj : j < 256) : eG.contains (UInt8.ofNat j) = (decide (j = 93) || (decide (j = 91) || (decide (j = 92) || (decide (j = 94) || (decide (j = 45) || decide (j = 10)))))) := by
 have : ((List.range 256).all fun j => eG.contains (UInt8.ofNat j) == (decide (j = 93) || (decide (j = 91) || (decide (j = 92) || (decide (j = 94) || (decide (j = 45) || decide (j = 10))))))) = true := by decide +kernel
 have := oN this hj
 simpa using this
theorem zFb {p : Nat -> Bool} {T : List UInt8} : ∀ (f i : Nat), 256 - i < f -> ([94].isPrefixOf T = false ∨ ∃ j, i <= j ∧ j < 256 ∧ aS p j = true) -> [94].isPrefixOf (dH (aS p) f i ++ T) = false
 | 0, i, h, _ => by omega
 | f + 1, i, h, hh => by
  unfold dH
  split
  ·cases hq : aS p i
   ·refine zFb f (i + 1) (by omega) ?_
    rcases hh with hh | ⟨j, h1, h2, h3⟩
    ·exact Or.inl hh
    ·right
     refine ⟨j, ?_, h2, h3⟩
     have : j ≠ i := fun e => by rw [e, hq] at h3; simp at h3
     omega
   ·have h2 := xW hq
    have h94 : UInt8.ofNat i ≠ 94 := (Qk h2).2.2.2.1
    have : ∀ w, [94].isPrefixOf (UInt8.ofNat i :: w) = false := fun w => by simp [List.isPrefixOf, Ne.symm h94]
    simp only [cond_true]
    cases decide (i + 2 <= sP (aS p) 256 i) <;> exact this _
  ·rcases hh with hh | ⟨j, h1, h2, h3⟩
   ·exact hh
   ·omega
theorem zKi {p x : Nat -> Bool} (hx : ∀ j, j < 256 -> x j = ((p j && decide (j = 93)) || ((aS p j && decide (0 <= j)) || wC p j))) {j : Nat} (hj : j < 256) : x j = p j := by
 rw [hx j hj]
 simp only [aS, wC, Mf hj, decide_eq_true (Nat.zero_le j), Bool.and_true]
 cases p j
 ·simp
 ·simp only [Bool.true_and]
  cases decide (j = 93) <;> cases decide (j = 91) <;> cases decide (j = 92) <;> cases decide (j = 94) <;> cases decide (j = 45) <;> cases decide (j = 10) <;> rfl
theorem zCp {C rest w : List UInt8} {p S : Nat -> Bool} (hC : BK true (fun _ => false) C S (C.length - rest.length)) (hS : ∀ x : Nat -> Bool, (∀ j, j < 256 -> x j = S j) -> ∀ j, j < 256 -> x j = p j)
  (hno : [94].isPrefixOf C = false) (he : dS p = false) (hw : w ++ rest = 91 :: C) (hl : rest.length <= C.length) : ∃ x, qH (w ++ rest) = some (x, w.length) ∧ ∀ j, j < 256 -> x j = p j := by
 obtain ⟨x, h1, h2⟩ := hC
 have hx := hS x (fun j hj => by rw [h2 j hj]; rfl)
 refine ⟨x, ?_, hx⟩
 rw [hw]
 unfold qH
 rw [show [91].isPrefixOf (91 :: C) = true from rfl]
 simp only [cond_true, List.drop_succ_cons, List.drop_zero, hno, cond_false]
 rw [h1 _ (by rw [List.length_cons]; omega)]
 simp only
 have hxe : dS x = false := by
  rw [Bool.eq_false_iff, ne_eq, Tt] at he ⊢
  intro h; exact he fun i hi => by rw [<- hx i hi]; exact h i hi
 rw [hxe]
 have := congrArg List.length hw
 simp only [List.length_append, List.length_cons] at this
 simp only [cond_false, Option.some.injEq, Prod.mk.injEq, true_and]
 omega
theorem zNh {p : Nat -> Bool} {rest : List UInt8} (h2 : 2 <= (aY p).length) (hn : aY p ≠ [45, 94]) : ∃ x, qH (xV p ++ rest) = some (x, (xV p).length) ∧ ∀ j, j < 256 -> x j = p j := by
 obtain ⟨j0, j1, j2, j3⟩ := Me h2 93
 have hT : ND (t0 p rest) = true := nd0
 have hS : ∀ (first : Bool) (acc : Nat -> Bool), (first = true -> ∃ j, j < 256 ∧ wC p j = true) -> BK first acc (t0 p rest) (wC p) ((t0 p rest).length - rest.length) := by
  intro first acc h
  refine bk0 fun hf => ?_
  obtain ⟨j, _, hj⟩ := h hf
  simp only [wC, Bool.or_eq_true, Bool.and_eq_true, decide_eq_true_eq] at hj
  rcases hj with ⟨a, rfl⟩ | ⟨a, rfl⟩ | ⟨a, rfl⟩ | ⟨a, rfl⟩ | ⟨a, rfl⟩
  ·exact Or.inl a
  ·exact Or.inr (Or.inl a)
  ·exact Or.inr (Or.inr (Or.inl a))
  ·exact Or.inr (Or.inr (Or.inr (Or.inl a)))
  ·exact Or.inr (Or.inr (Or.inr (Or.inr a)))
 have hsc := fun first acc => zPt (p := p) hT zKv hS 256 0 257 first acc (by omega) (by omega)
 have hcase : (∃ j, j < 256 ∧ wC p j = true) ∨ ∃ j, 0 <= j ∧ j < 256 ∧ aS p j = true := by
  by_cases hap : eG.contains (UInt8.ofNat j0) = true
  ·left
   refine ⟨j0, j1, ?_⟩
   rw [Mf j1] at hap
   simp only [Bool.or_eq_true, decide_eq_true_eq] at hap
   simp only [wC, j3, Bool.true_and, Bool.or_eq_true, decide_eq_true_eq]
   omega
  ·right
   exact ⟨j0, Nat.zero_le _, j1, by unfold aS; rw [j3, Bool.true_and]; simpa using hap⟩
 have e : xV p ++ rest = 91 :: ((bif p 93 then [93] else []) ++ (dH (aS p) 257 0 ++ t0 p rest)) := by
  simp only [xV, Yx, List.append_assoc, zPs, List.singleton_append, List.cons_append, List.nil_append]
 have hlen : rest.length <= (dH (aS p) 257 0 ++ t0 p rest).length := by rw [List.length_append]; have := @zKv p rest; omega
 have hemp : dS p = false := Cc j1 j3
 cases h93 : p 93
 ·rw [h93] at e
  refine zCp (p := p) (hsc true _ (fun _ => hcase)) (fun x hx j hj => zKi (fun j hj => ?_) hj) ?_ hemp e hlen
  ·rw [hx j hj]
   by_cases e2 : j = 93
   ·subst e2; rw [h93]; simp
   ·rw [decide_eq_false e2, Bool.and_false, Bool.false_or]
  ·refine zFb 257 0 (by omega) ?_
   by_cases hpl : ∃ j, 0 <= j ∧ j < 256 ∧ aS p j = true
   ·exact Or.inr hpl
   ·left
    unfold t0 t1 t2 t3
    cases h10 : p 10 <;> simp only [cond_true, cond_false, List.nil_append] <;> try rfl
    cases h91 : p 91 <;> simp only [cond_true, cond_false, List.nil_append] <;> try rfl
    cases h92 : p 92 <;> simp only [cond_true, cond_false, List.nil_append] <;> try rfl
    have hall : ∀ j, j < 256 -> p j = true -> j = 94 ∨ j = 45 := by
     intro j hj hp
     have : ¬ eG.contains (UInt8.ofNat j) = false := fun h => hpl ⟨j, Nat.zero_le _, hj, by unfold aS; rw [hp, h]; rfl⟩
     rw [Bool.not_eq_false, Mf hj] at this
     simp only [Bool.or_eq_true, decide_eq_true_eq] at this
     rcases this with rfl | rfl | rfl | rfl | rfl | rfl
     ·rw [h93] at hp; simp at hp
     ·rw [h91] at hp; simp at hp
     ·rw [h92] at hp; simp at hp
     ·exact Or.inl rfl
     ·exact Or.inr rfl
     ·rw [h10] at hp; simp at hp
    obtain ⟨a, a1, a2, a3⟩ := Me h2 45
    obtain ⟨b, b1, b2, b3⟩ := Me h2 94
    have ha := hall a a1 a3
    have hb := hall b b1 b3
    have ha : a = 94 := by omega
    have hb : b = 45 := by omega
    subst ha hb
    exfalso
    apply hn
    rw [Md (q := fun j => decide (j = 94) || decide (j = 45)) (fun j hj => by
     rw [Bool.eq_iff_iff]
     simp only [Bool.or_eq_true, decide_eq_true_eq]
     exact ⟨hall j hj, fun h => by rcases h with rfl | rfl; exact a3; exact b3⟩)]
    decide +kernel
 ·rw [h93] at e
  simp only [cond_true] at e
  have hb := BK.step (first := true) (acc := fun _ => false) (p := aP 93 93) (k1 := 1) (r := [93] ++ (dH (aS p) 257 0 ++ t0 p rest)) (T := fun j => (p j && decide (j = 93)) || ((aS p j && decide (0 <= j)) || wC p j)) (by simp)
   (sD (a := 93) (may := true) rfl rfl (by show ND (dH (aS p) 257 0 ++ t0 p rest) = true; exact Vq hT 257 0)) rfl (hsc false _ (by simp)) (fun j hj => by
    have e := @range_one 93 j
    rw [show (93 : UInt8).toNat = 93 from rfl] at e
    rw [e]
    by_cases e2 : j = 93
    ·subst e2; rw [h93]; rfl
    ·rw [decide_eq_false e2, Bool.and_false])
  have hk : ([93] ++ (dH (aS p) 257 0 ++ t0 p rest)).length - rest.length = 1 + ((dH (aS p) 257 0 ++ t0 p rest).length - rest.length) := by
   rw [List.length_append, List.length_singleton]; omega
  rw [<- hk] at hb
  exact zCp (p := p) hb (fun x hx j hj => zKi hx hj) rfl hemp e (by rw [List.length_append, List.length_singleton]; omega)
theorem zSb {p : Nat -> Bool} {rest : List UInt8} (hp : aY p = [45, 94]) : ∃ x, qH ([91, 45, 94, 93] ++ rest) = some (x, 4) ∧ ∀ j, j < 256 -> x j = p j := by
 have hpj : ∀ j, j < 256 -> p j = (decide (j = 45) || decide (j = 94)) := by
  intro j hj
  have h := wB (p := p) hj
  have hq := wB (p := fun j => decide (j = 45) || decide (j = 94)) hj
  rw [show aY (fun j => decide (j = 45) || decide (j = 94)) = [45, 94] by decide +kernel, <- hp] at hq
  rw [Bool.eq_iff_iff, h, <- hq]
 have h1 : BK false (fun j => (false || aP 45 45 j)) (94 :: 93 :: rest) (aP 94 94) (1 + 1) :=
  BK.step (p := aP 94 94) (r' := 93 :: rest) rfl (sD (a := 94) (may := true) rfl rfl rfl) rfl BK.end (fun j _ => by simp)
 have h2 : BK true (fun _ => false) (45 :: 94 :: 93 :: rest) (fun j => aP 45 45 j || aP 94 94 j) (1 + (1 + 1)) :=
  BK.step (p := aP 45 45) (r' := 94 :: 93 :: rest) rfl (sD (a := 45) (may := true) rfl rfl rfl) rfl h1 (fun j _ => rfl)
 have hk : (45 :: 94 :: 93 :: rest).length - rest.length = 1 + (1 + 1) := by simp only [List.length_cons]; omega
 rw [<- hk] at h2
 refine zCp (p := p) (w := [91, 45, 94, 93]) h2 (fun x hx j hj => ?_) rfl (Cc (i := 45) (by omega) (by rw [hpj 45 (by omega)]; rfl)) rfl (by simp only [List.length_cons]; omega)
 have e1 := @range_one 45 j
 have e2 := @range_one 94 j
 rw [show (45 : UInt8).toNat = 45 from rfl] at e1
 rw [show (94 : UInt8).toNat = 94 from rfl] at e2
 rw [hx j hj, e1, e2, hpj j hj]
theorem zHx {p : Nat -> Bool} (h : (aY p).length = 256) {j : Nat} (hj : j < 256) : p j = true := by
 unfold aY at h
 rw [List.length_map] at h
 have := List.length_filter_eq_length_iff.1 (show ((List.range 256).filter p).length = (List.range 256).length by rw [h, List.length_range])
 exact this j (by simpa using hj)
def HB (s : List UInt8) : Prop := ∀ y, dQ (s ++ y) = false ∧ [36].isPrefixOf (s ++ y) = false ∧ [94].isPrefixOf (s ++ y) = false ∧ [42].isPrefixOf (s ++ y) = false ∧ [92, 123].isPrefixOf (s ++ y) = false
theorem HB.app {s w : List UInt8} (h : HB s) : HB (s ++ w) := fun y => by rw [List.append_assoc]; exact h _
theorem zCq {c : UInt8} {s : List UInt8} (h1 : c ≠ 92) (h2 : c ≠ 36) (h3 : c ≠ 94) (h4 : c ≠ 42) : HB (c :: s) := fun y => by
 simp [dQ, List.isPrefixOf, Ne.symm h1, Ne.symm h2, Ne.symm h3, Ne.symm h4]
theorem Tv {d : UInt8} {s : List UInt8} (h1 : d ≠ 41) (h2 : d ≠ 123) : HB (92 :: d :: s) := fun y => by
 simp [dQ, List.isPrefixOf, Ne.symm h1, Ne.symm h2]
theorem show_cases {p : Nat -> Bool} (he : dS p = false) : (∃ c, nM p = Aa c ∧ ∀ j, j < 256 -> p j = vW c j) ∨ (nM p = [46] ∧ ∀ j, j < 256 -> p j = true) ∨ (nM p).head? = some 91 ∧ ∀ rest, ∃ x, qH (nM p ++ rest) = some (x, (nM p).length) ∧ ∀ j, j < 256 -> x j = p j := by
 have hmem := fun {j} (hj : j < 256) => wB (p := p) hj
 match hb : aY p with
 | [] =>
  rw [Bool.eq_false_iff, ne_eq, Tt] at he
  exact absurd (fun i hi => by
   have := hmem hi
   rw [hb] at this
   simpa using this) he
 | [c] =>
  left
  refine ⟨c, by unfold nM; rw [hb], fun j hj => ?_⟩
  have := hmem hj
  rw [hb, List.mem_singleton] at this
  rw [Bool.eq_iff_iff, this]
  simp only [vW, decide_eq_true_eq]
  rw [<- UInt8.toNat_inj, UInt8.toNat_ofNat']
  omega
 | c :: d :: l =>
  right
  have e : nM p = bif (c :: d :: l).length == 256 then [46] else bif (c :: d :: l) == [45, 94] then [91, 45, 94, 93] else xV p := by
   unfold nM; rw [hb]
  rw [<- hb] at e
  rw [e]
  cases h : (aY p).length == 256
  ·right
   simp only [cond_false]
   cases h2 : aY p == [45, 94]
   ·simp only [cond_false]
    refine ⟨rfl, fun rest => zNh (by rw [hb]; simp) (by intro h3; rw [h3] at h2; simp at h2)⟩
   ·simp only [cond_true]
    exact ⟨rfl, fun rest => zSb (by simpa using h2)⟩
  ·left
   exact ⟨rfl, fun j hj => zHx (by simpa using h) hj⟩
theorem Xp {c : UInt8} (h : kH.contains c = true) : c = 46 ∨ c = 91 ∨ c = 92 ∨ c = 42 ∨ c = 94 ∨ c = 36 := by
 simpa [kH, List.contains_cons] using h
theorem zPu (c : UInt8) : HB (Aa c) := by
 unfold Aa
 by_cases h10 : c = 10
 ·subst h10; exact Tv (by decide) (by decide)
 ·rw [beq_false_of_ne h10]
  simp only [cond_false]
  cases h6 : kH.contains c
  ·have h : c ≠ 46 ∧ c ≠ 91 ∧ c ≠ 92 ∧ c ≠ 42 ∧ c ≠ 94 ∧ c ≠ 36 := by simpa [kH, List.contains_cons] using h6
   exact zCq h.2.2.1 h.2.2.2.2.2 h.2.2.2.2.1 h.2.2.2.1
  ·rcases Xp h6 with rfl | rfl | rfl | rfl | rfl | rfl <;> exact Tv (by decide) (by decide)
theorem zPv {p : Nat -> Bool} (he : dS p = false) : HB (nM p) := by
 rcases show_cases he with ⟨c, h, _⟩ | ⟨h, _⟩ | ⟨h, _⟩
 ·rw [h]; exact zPu c
 ·rw [h]; exact zCq (by decide) (by decide) (by decide) (by decide)
 ·cases hs : nM p with
  | nil => rw [hs] at h; simp at h
  | cons d s =>
   rw [hs] at h
   simp only [List.head?_cons, Option.some.injEq] at h
   subst h
   exact zCq (by decide) (by decide) (by decide) (by decide)
section
variable {row : List UInt8 -> Nat -> List Bool -> Res (Option Pt)} {first : Bool} {b : Nat} {en : List Bool}
theorem zKj (c : UInt8) (y : List UInt8) : eY row first (Aa c ++ y) b en = .ok (.bytes (vW c)) y b en := by
 unfold Aa
 by_cases h10 : c = 10
 ·subst h10; rfl
 ·rw [beq_false_of_ne h10]
  simp only [cond_false]
  cases h6 : kH.contains c
  ·have h : c ≠ 46 ∧ c ≠ 91 ∧ c ≠ 92 ∧ c ≠ 42 ∧ c ≠ 94 ∧ c ≠ 36 := by simpa [kH, List.contains_cons] using h6
   simp only [cond_false, List.singleton_append]
   unfold eY
   simp only
   rw [beq_false_of_ne h.1, beq_false_of_ne h.2.1, beq_false_of_ne h.2.2.1]; rfl
  ·rcases Xp h6 with rfl | rfl | rfl | rfl | rfl | rfl <;> rfl
theorem zKk {p : Nat -> Bool} (he : dS p = false) (y : List UInt8) : ∃ x, eY row first (nM p ++ y) b en = .ok (.bytes x) y b en ∧ ∀ j, j < 256 -> x j = p j := by
 rcases show_cases he with ⟨c, h, h2⟩ | ⟨h, h2⟩ | ⟨h, h2⟩
 ·rw [h]; exact ⟨_, zKj c y, fun j hj => (h2 j hj).symm⟩
 ·rw [h]; exact ⟨_, rfl, fun j hj => (h2 j hj).symm⟩
 ·obtain ⟨x, h3, h4⟩ := h2 y
  cases hs : nM p with
  | nil => rw [hs] at h; simp at h
  | cons d s =>
   rw [hs] at h h3
   simp only [List.head?_cons, Option.some.injEq] at h
   subst h
   refine ⟨x, ?_, h4⟩
   have e : eY row first (91 :: (s ++ y)) b en = match qH (91 :: (s ++ y)) with
    | none => .er 42 (91 :: (s ++ y)).length
    | some (p, k) => .ok (.bytes p) ((91 :: (s ++ y)).drop k) b en := rfl
   rw [List.cons_append] at h3 ⊢
   rw [e, h3]
   simp only
   rw [<- List.cons_append, List.drop_left]
end
end Go.Dec
namespace Go.Dec
def NX (y : List UInt8) : Prop := [42].isPrefixOf y = false ∧ [92, 123].isPrefixOf y = false
theorem HB.nx {s : List UInt8} (h : HB s) (y : List UInt8) : NX (s ++ y) := ⟨(h y).2.2.2.1, (h y).2.2.2.2⟩
theorem zKl {y : List UInt8} (h : dQ y = true) : NX y ∧ [94].isPrefixOf y = false := by
 unfold dQ at h
 match y, h with
 | [], _ => exact ⟨⟨rfl, rfl⟩, rfl⟩
 | [a], h => simp [List.isPrefixOf] at h
 | a :: c :: r, h =>
  simp [List.isPrefixOf] at h
  obtain ⟨rfl, rfl⟩ := h
  exact ⟨⟨rfl, rfl⟩, rfl⟩
theorem zNi : ((List.range 256).all fun k => decide ((dG (k : Int)).length <= 3) && decide (1 <= (dG (k : Int)).length)) = true := by decide +kernel
theorem Xq {c : UInt8} {r : List UInt8} (hc : isDigit c = false) : ∀ (m : Nat) (w : List UInt8), w.all isDigit = true -> w.length <= m -> fM m (w ++ c :: r) = w.length
 | 0, [], _, _ => rfl
 | m + 1, [], _, _ => by show (bif isDigit c then fM m r + 1 else 0) = 0; rw [hc]; rfl
 | 0, d :: w, _, h => by simp at h
 | m + 1, d :: w, h, h2 => by
  simp only [List.all_cons, Bool.and_eq_true] at h
  show (bif isDigit d then fM m (w ++ c :: r) + 1 else 0) = _
  rw [h.1, Xq hc m w h.2 (by simpa using h2)]; rfl
theorem Ht {k : Nat} (hk : k < 256) {c : UInt8} {r : List UInt8} (hc : isDigit c = false) : jR (dG (k : Int) ++ c :: r) = (some k, c :: r) := by
 have ht := oN zNi hk
 simp only [Bool.and_eq_true, decide_eq_true_eq] at ht
 obtain ⟨v1, v2⟩ := xH (k := k) (by omega)
 have hd := Xq (r := r) hc 3 _ v2 ht.1
 unfold jR
 simp only
 rw [hd, beq_false_of_ne (by omega)]
 rw [List.take_left, List.drop_left, v1]; rfl
theorem zNj {c : UInt8} {r : List UInt8} (hc : isDigit c = false) : jR (c :: r) = (none, c :: r) := by
 have : fM 3 (c :: r) = 0 := by show (bif isDigit c then fM 2 r + 1 else 0) = 0; rw [hc]; rfl
 unfold jR
 simp only
 rw [this]; rfl
theorem Hu {t : Pt} {lo hi : Int} {y : List UInt8} {b : Nat} {en : List Bool} (h : NX y) : uS t lo hi y b en = .ok (.times t lo hi) y b en := by
 unfold uS; rw [h.1, h.2]; rfl
theorem zHy {t : Pt} {lo hi : Int} {y : List UInt8} {b : Nat} {en : List Bool} (ht : iT lo hi = true) (h : NX y) : kP t (yN lo hi ++ y) b en = .ok (.times t lo hi) y b en := by
 rw [Qh]
 simp only [iT, Bool.and_eq_true, Bool.or_eq_true, decide_eq_true_eq] at ht
 obtain ⟨⟨h1, h2⟩, h3⟩ := ht
 obtain ⟨l, rfl⟩ : ∃ l : Nat, lo = (l : Int) := ⟨lo.toNat, by omega⟩
 have hl : l < 256 := by omega
 have hp : ∀ w : List UInt8, [42].isPrefixOf ([92, 123] ++ w) = false ∧ [92, 123].isPrefixOf ([92, 123] ++ w) = true ∧ ([92, 123] ++ w).drop 2 = w := fun w => ⟨rfl, rfl, rfl⟩
 unfold yN
 by_cases hm : hi = -1
 ·subst hm
  by_cases hz : (l : Int) = 0
  ·rw [hz]; exact Hu h
  ·rw [beq_false_of_ne hz]
   simp only [beq_self_eq_true, cond_true, cond_false, List.append_assoc]
   obtain ⟨p1, p2, p3⟩ := hp (dG (l : Int) ++ ([44, 92, 125] ++ y))
   rw [p1, p2, p3]
   have e : qY (dG (l : Int) ++ ([44, 92, 125] ++ y)) = some ((l : Int), -1, y) := by
    unfold qY
    rw [show ([44, 92, 125] ++ y : List UInt8) = 44 :: 92 :: 125 :: y from rfl, Ht hl (by decide)]
    simp only [show [44].isPrefixOf (44 :: 92 :: 125 :: y) = true from rfl, cond_true, List.drop_succ_cons, List.drop_zero]
    rw [zNj (by decide)]
    simp only [show [92, 125].isPrefixOf (92 :: 125 :: y) = true from rfl, Bool.true_and, decide_eq_true (show l <= 255 by omega), cond_true, List.drop_succ_cons, List.drop_zero]
   rw [e]
   exact Hu h
 ·rcases h3 with h3 | ⟨⟨h3, h4⟩, h5⟩
  ·exact absurd h3 hm
  obtain ⟨g, rfl⟩ : ∃ g : Nat, hi = (g : Int) := ⟨hi.toNat, by omega⟩
  rw [beq_false_of_ne hm]
  by_cases he : (g : Int) = (l : Int)
  ·rw [he]
   have he2 : g = l := by omega
   simp only [beq_self_eq_true, cond_true, cond_false, List.append_assoc]
   obtain ⟨p1, p2, p3⟩ := hp (dG (l : Int) ++ ([92, 125] ++ y))
   rw [p1, p2, p3]
   have e : qY (dG (l : Int) ++ ([92, 125] ++ y)) = some ((l : Int), (l : Int), y) := by
    unfold qY
    rw [show ([92, 125] ++ y : List UInt8) = 92 :: 125 :: y from rfl, Ht hl (by decide)]
    simp only [show [44].isPrefixOf (92 :: 125 :: y) = false from rfl, cond_false, show [92, 125].isPrefixOf (92 :: 125 :: y) = true from rfl, Bool.true_and, decide_eq_true (show l <= 255 by omega), decide_eq_true (show 1 <= l by omega), cond_true, List.drop_succ_cons, List.drop_zero]
   rw [e]
   exact Hu h
  ·rw [beq_false_of_ne he]
   simp only [cond_false, List.append_assoc]
   obtain ⟨p1, p2, p3⟩ := hp (dG (l : Int) ++ ([44] ++ (dG (g : Int) ++ ([92, 125] ++ y))))
   rw [p1, p2, p3]
   have e : qY (dG (l : Int) ++ ([44] ++ (dG (g : Int) ++ ([92, 125] ++ y)))) = some ((l : Int), (g : Int), y) := by
    unfold qY
    rw [show ([44] ++ (dG (g : Int) ++ ([92, 125] ++ y)) : List UInt8) = 44 :: (dG (g : Int) ++ (92 :: 125 :: y)) from rfl, Ht hl (by decide)]
    simp only [show [44].isPrefixOf (44 :: (dG (g : Int) ++ (92 :: 125 :: y))) = true from rfl, cond_true, List.drop_succ_cons, List.drop_zero]
    rw [Ht (by omega) (by decide)]
    simp only [show [92, 125].isPrefixOf (92 :: 125 :: y) = true from rfl, Bool.true_and, decide_eq_true (show l <= 255 by omega), decide_eq_true (show g <= 255 by omega), decide_eq_true (show l <= g by omega), decide_eq_true (show 1 <= g by omega), cond_true, List.drop_succ_cons, List.drop_zero]
   rw [e]
   exact Hu h
def zHz (row : List UInt8 -> Nat -> List Bool -> Res (Option Pt)) : Prop := ∀ r b en t r' b' en', b <= 9 -> en.length = 10 -> row r b en = .ok (some t) r' b' en' -> ∀ rest, dQ rest = true -> ∃ u, row (bA t ++ rest) b en = .ok (some u) rest b' en' ∧ fO t u
theorem zPw {row : List UInt8 -> Nat -> List Bool -> Res (Option Pt)} {b : Nat} {en : List Bool} {p : Nat -> Bool} (he : dS p = false) : HB (bA (.bytes p)) ∧ ∀ first y, ∃ u, eY row first (bA (.bytes p) ++ y) b en = .ok u y b en ∧ fO (.bytes p) u := by
 refine ⟨zPv he, fun first y => ?_⟩
 obtain ⟨x, h1, h2⟩ := zKk (row := row) (first := first) (b := b) (en := en) he y
 exact ⟨_, h1, (Md h2).symm⟩
theorem zKm {row : List UInt8 -> Nat -> List Bool -> Res (Option Pt)} (hrow : zHz row) {first : Bool} {r : List UInt8} {b : Nat} {en : List Bool} {t : Pt} {r' : List UInt8} {b' : Nat} {en' : List Bool} (hb9 : b <= 9) (zUb : en.length = 10) (h : eY row first r b en = .ok t r' b' en') :
  HB (bA t) ∧ ∀ first y, ∃ u, eY row first (bA t ++ y) b en = .ok u y b' en' ∧ fO t u := by
 have hone : ∀ {p : Nat -> Bool} {x : List UInt8}, dS p = false -> Res.ok (.bytes p) x b en = Res.ok t r' b' en' -> HB (bA t) ∧ ∀ first y, ∃ u, eY row first (bA t ++ y) b en = .ok u y b' en' ∧ fO t u := by
  intro p x he h
  simp only [Res.ok.injEq] at h
  obtain ⟨rfl, rfl, rfl, rfl⟩ := h
  exact zPw he
 unfold eY at h
 cases r with
 | nil => simp at h
 | cons c r1 =>
  simp only at h
  cases h1 : c == 46 <;> rw [h1] at h <;> simp only [cond_true, cond_false] at h
  case true => exact hone (Cc (i := 0) (by omega) rfl) h
  cases h2 : c == 91 <;> rw [h2] at h <;> simp only [cond_true, cond_false] at h
  case true =>
   cases hb : qH (c :: r1) with
   | none => rw [hb] at h; simp at h
   | some x =>
    obtain ⟨p, k⟩ := x
    rw [hb] at h
    exact hone (zEu hb) h
  cases h3 : c == 92 <;> rw [h3] at h <;> simp only [cond_true, cond_false] at h
  case false => exact hone (Aj c) h
  cases r1 with
  | nil => simp at h
  | cons d r2 =>
   simp only at h
   cases h4 : d == 40 <;> rw [h4] at h <;> simp only [cond_true, cond_false] at h
   case true =>
    cases h5 : b == 9 <;> rw [h5] at h <;> simp only [cond_true, cond_false] at h
    case true => simp at h
    cases ho : row r2 (b + 1) en with
    | er e k => rw [ho] at h; simp at h
    | ok t3 r3 b3 en3 =>
     rw [ho] at h
     cases t3 with
     | none => simp at h
     | some t3 =>
      simp only at h
      cases h6 : [92, 41].isPrefixOf r3 <;> rw [h6] at h <;> simp only [cond_true, cond_false, Res.ok.injEq] at h
      ·simp at h
      ·obtain ⟨rfl, rfl, rfl, rfl⟩ := h
       refine ⟨Tv (by decide) (by decide), fun first y => ?_⟩
       have hb8 : b + 1 <= 9 := by
        have : b ≠ 9 := by simpa using h5
        omega
       obtain ⟨u, u1, u2⟩ := hrow _ _ _ _ _ _ _ hb8 zUb ho (92 :: 41 :: y) rfl
       refine ⟨.group u (b + 1), ?_, u2⟩
       have e : bA (.group t3 (b + 1)) ++ y = 92 :: 40 :: (bA t3 ++ 92 :: 41 :: y) := by simp [bA]
       rw [e]
       unfold eY
       simp only
       rw [show ((92 : UInt8) == 46) = false from rfl, show ((92 : UInt8) == 91) = false from rfl, show ((92 : UInt8) == 92) = true from rfl, show ((40 : UInt8) == 40) = true from rfl, h5, u1]
       rfl
   cases h5 : decide (49 <= d.toNat) && decide (d.toNat <= 57) <;> rw [h5] at h <;> simp only [cond_true, cond_false] at h
   case true =>
    cases h6 : en.getD (d.toNat - 48) false <;> rw [h6] at h <;> simp only [cond_true, cond_false, Res.ok.injEq] at h
    ·simp at h
    ·obtain ⟨rfl, rfl, rfl, rfl⟩ := h
     have h55 := h5
     simp only [Bool.and_eq_true, decide_eq_true_eq] at h55
     have e : bA (.ref (d.toNat - 48)) = [92, d] := by
      simp only [bA]
      rw [Qj (by omega), show 48 + (d.toNat - 48) = d.toNat by omega, He]; rfl
     rw [e]
     refine ⟨Tv (fun hh => by rw [hh] at h55; simp at h55) (fun hh => by rw [hh] at h55; simp at h55), fun first y => ⟨.ref (d.toNat - 48), ?_, rfl⟩⟩
     show eY row first (92 :: d :: y) b en = _
     unfold eY
     simp only
     rw [show ((92 : UInt8) == 46) = false from rfl, show ((92 : UInt8) == 91) = false from rfl, show ((92 : UInt8) == 92) = true from rfl, h4, h5, h6]
     rfl
   cases h6 : d == 110 <;> rw [h6] at h <;> simp only [cond_true, cond_false] at h
   case true => exact hone (Aj 10) h
   cases h7 : nY.contains d <;> rw [h7] at h <;> simp only [cond_true, cond_false] at h
   case true => exact hone (Aj d) h
   cases h8 : d == 123 && first <;> rw [h8] at h <;> simp at h
def flat (ts : List Pt) : List UInt8 := ts.flatMap bA
def shL : List Pt -> List Pt -> Prop
 | [], [] => True
 | a :: s, b :: t => fO a b ∧ shL s t
 | _, _ => False
theorem zIa {row : List UInt8 -> Nat -> List Bool -> Res (Option Pt)} (hrow : zHz row) (hn : zHk row) : ∀ (f : Nat) (first : Bool) (r : List UInt8) (b : Nat) (en : List Bool) (acc ts : List Pt) (r' : List UInt8) (b' : Nat) (en' : List Bool), b <= 9 -> en.length = 10 -> eD row f first r b en acc = .ok ts r' b' en' ->
  ∃ new, ts = acc ++ new ∧ (∀ rest, dQ rest = true -> NX (flat new ++ rest) ∧ [94].isPrefixOf (flat new ++ rest) = false) ∧
   ∀ rest, dQ rest = true -> ∀ (k : Nat) (yO : Bool) (Vr : List Pt), (flat new ++ rest).length < k -> ∃ new2, eD row k yO (flat new ++ rest) b en Vr = .ok (Vr ++ new2) rest b' en' ∧ shL new new2 := by
 intro f
 induction f with
 | zero => intro first r b en acc ts r' b' en' _ _ h; simp [eD] at h
 | succ f ih =>
  intro first r b en acc ts r' b' en' hb he h
  unfold eD at h
  cases hc : dQ r <;> rw [hc] at h <;> simp only [cond_true, cond_false, Res.ok.injEq] at h
  case true =>
   obtain ⟨rfl, rfl, rfl, rfl⟩ := h
   refine ⟨[], by simp, fun rest hr => zKl hr, fun rest hr k yO Vr hk => ⟨[], ?_, trivial⟩⟩
   obtain ⟨k, rfl⟩ : ∃ j, k = j + 1 := ⟨k - 1, by omega⟩
   unfold eD
   rw [show flat [] ++ rest = rest from rfl, hr, List.append_nil]; rfl
  cases hd : [36].isPrefixOf r && dQ (r.drop 1) <;> rw [hd] at h <;> simp only [cond_true, cond_false, Res.ok.injEq] at h
  case true =>
   obtain ⟨rfl, rfl, rfl, rfl⟩ := h
   refine ⟨[.eol], rfl, fun rest hr => ⟨⟨rfl, rfl⟩, rfl⟩, fun rest hr k yO Vr hk => ⟨[.eol], ?_, trivial, trivial⟩⟩
   obtain ⟨k, rfl⟩ : ∃ j, k = j + 1 := ⟨k - 1, by omega⟩
   unfold eD
   rw [show flat [.eol] ++ rest = 36 :: rest from rfl, show dQ (36 :: rest) = false from rfl, show [36].isPrefixOf (36 :: rest) = true from rfl, List.drop_succ_cons, List.drop_zero, hr]; rfl
  cases ho : eY row first r b en with
  | er e k => rw [ho] at h; simp at h
  | ok t r1 b1 en1 =>
   rw [ho] at h
   simp only at h
   obtain ⟨a1, a2, a3, a4⟩ := zJv hn hb he ho
   obtain ⟨g1, g2⟩ := zKm hrow hb he ho
   cases ho2 : kP t r1 b1 en1 with
   | er e k => rw [ho2] at h; simp at h
   | ok t2 r2 b2 en2 =>
    rw [ho2] at h
    simp only at h
    obtain ⟨c1, c2, rfl, rfl⟩ := zEx a1 ho2
    obtain ⟨new, d1, d2, d3⟩ := ih _ _ _ _ _ _ _ _ _ a3 a4 h
    have hb2 : HB (bA t2) := by
     rcases c1 with rfl | ⟨lo, hi, rfl⟩
     ·exact g1
     ·exact g1.app
    have hfl : ∀ rest, flat (t2 :: new) ++ rest = bA t2 ++ (flat new ++ rest) := fun rest => by simp [flat]
    refine ⟨t2 :: new, by rw [d1]; simp, fun rest hr => ?_, fun rest hr k yO Vr hk => ?_⟩
    ·rw [hfl]; exact ⟨hb2.nx _, (hb2 _).2.2.1⟩
    ·rw [hfl] at hk ⊢
     obtain ⟨k, rfl⟩ : ∃ j, k = j + 1 := ⟨k - 1, by omega⟩
     have hne : 1 <= (bA t2).length := by
      cases hp : bA t2 with
      | nil => rw [hp] at hb2; exact absurd (hb2 []).1 (by decide)
      | cons _ _ => simp
     obtain ⟨q1, q2, _⟩ := hb2 (flat new ++ rest)
     have hstep : ∃ u, (match eY row yO (bA t2 ++ (flat new ++ rest)) b en with
       | .er e k => Res.er e k
       | .ok t r1 b1 en1 => kP t r1 b1 en1) = .ok u (flat new ++ rest) b2 en2 ∧ fO t2 u := by
      rcases c1 with rfl | ⟨lo, hi, rfl⟩
      ·obtain ⟨u, u1, u2⟩ := g2 yO (flat new ++ rest)
       refine ⟨u, ?_, u2⟩
       rw [u1]
       simp only
       rw [Qh, (d2 rest hr).1.1, (d2 rest hr).1.2]; rfl
      ·obtain ⟨u, u1, u2⟩ := g2 yO (yN lo hi ++ (flat new ++ rest))
       refine ⟨.times u lo hi, ?_, u2, rfl, rfl⟩
       simp only [bA, List.append_assoc]
       rw [u1]
       simp only
       have hto : iT lo hi = true := by
        have := c2.1
        simp only [bY, Bool.and_eq_true] at this
        first | exact this.2 | exact this.1
       exact zHy hto (d2 rest hr).1
     obtain ⟨u, u1, u2⟩ := hstep
     obtain ⟨new2, v1, v2⟩ := d3 rest hr k false (Vr ++ [u]) (by rw [List.length_append] at hk; omega)
     refine ⟨u :: new2, ?_, u2, v2⟩
     unfold eD
     rw [q1, q2]
     simp only [cond_false, Bool.false_and]
     cases ho3 : eY row yO (bA t2 ++ (flat new ++ rest)) b en with
     | er e k => rw [ho3] at u1; simp at u1
     | ok t5 r5 b5 en5 =>
      rw [ho3] at u1
      simp only at u1 ⊢
      rw [u1]
      simp only
      rw [v1, List.append_assoc]; rfl
theorem Xr : ∀ (ts : List Pt) (t : Pt), fE ts = some t -> bA t = flat ts
 | [], t, h => by simp [fE] at h
 | u :: ts, t, h => by
  unfold fE at h
  cases hc : fE ts with
  | none =>
   rw [hc] at h
   simp only [Option.some.injEq] at h
   subst h
   cases ts with
   | nil => simp [flat]
   | cons v ts =>
    unfold fE at hc
    cases h2 : fE ts <;> rw [h2] at hc <;> simp at hc
  | some v =>
   rw [hc] at h
   simp only [Option.some.injEq] at h
   subst h
   simp only [bA, Xr ts v hc, flat, List.flatMap_cons]
theorem zCr : ∀ (ts us : List Pt) (t : Pt), shL ts us -> fE ts = some t -> ∃ u, fE us = some u ∧ fO t u
 | [], _, t, _, h => by simp [fE] at h
 | a :: ts, [], t, hs, h => by simp [shL] at hs
 | a :: ts, b :: us, t, hs, h => by
  unfold fE at h ⊢
  cases hc : fE ts with
  | none =>
   rw [hc] at h
   simp only [Option.some.injEq] at h
   subst h
   have : fE us = none := by
    cases ts with
    | nil =>
     cases us with
     | nil => rfl
     | cons _ _ => exact absurd hs.2 (by simp [shL])
    | cons v ts =>
     unfold fE at hc
     cases h2 : fE ts <;> rw [h2] at hc <;> simp at hc
   rw [this]
   exact ⟨b, rfl, hs.1⟩
  | some v =>
   rw [hc] at h
   simp only [Option.some.injEq] at h
   subst h
   obtain ⟨u, u1, u2⟩ := zCr ts us v hs.2 hc
   rw [u1]
   exact ⟨.cat b u, rfl, hs.1, u2⟩
end Go.Dec
namespace Go.Dec
theorem zNk : ∀ f : Nat, zHz (dM f) := by
 intro f
 induction f with
 | zero => intro r b en t r' b' en' _ _ h; simp [dM] at h
 | succ f ih =>
  intro r b en t r' b' en' hb he h rest hr
  unfold dM at h
  simp only at h
  cases ho : eD (dM f) ((bif [94].isPrefixOf r then r.drop 1 else r).length + 1) true (bif [94].isPrefixOf r then r.drop 1 else r) b en (bif [94].isPrefixOf r then [Pt.bol] else []) with
  | er e k => rw [ho] at h; simp at h
  | ok ts r2 b2 en2 =>
   rw [ho] at h
   simp only [Res.ok.injEq] at h
   obtain ⟨new, d1, d2, d3⟩ := zIa ih (zOh f) _ _ _ _ _ _ _ _ _ _ hb he ho
   obtain ⟨h1, rfl, rfl, rfl⟩ := h
   have hp := Xr ts t h1
   cases h94 : [94].isPrefixOf r
   ·rw [h94] at d1
    simp only [cond_false, List.nil_append] at d1
    subst d1
    rw [hp]
    obtain ⟨e1, e2⟩ := d2 rest hr
    obtain ⟨new2, v1, v2⟩ := d3 rest hr ((flat ts ++ rest).length + 1) true [] (by omega)
    obtain ⟨u, u1, u2⟩ := zCr ts new2 t v2 h1
    refine ⟨u, ?_, u2⟩
    unfold dM
    simp only
    rw [e2]
    simp only [cond_false]
    rw [v1, List.nil_append]
    simp only [u1]
   ·rw [h94] at d1
    simp only [cond_true] at d1
    subst d1
    rw [hp]
    obtain ⟨new2, v1, v2⟩ := d3 rest hr ((flat new ++ rest).length + 1) true [.bol] (by omega)
    obtain ⟨u, u1, u2⟩ := zCr (.bol :: new) (.bol :: new2) t ⟨trivial, v2⟩ h1
    refine ⟨u, ?_, u2⟩
    have e : flat ([.bol] ++ new) ++ rest = 94 :: (flat new ++ rest) := rfl
    rw [e]
    unfold dM
    simp only
    rw [show [94].isPrefixOf (94 :: (flat new ++ rest)) = true from rfl]
    simp only [cond_true, List.drop_succ_cons, List.drop_zero]
    rw [v1]
    exact congrArg (fun x => Res.ok x rest b2 en2) u1
theorem zSs : ∀ (t u : Pt), fO t u -> t.sz = u.sz := by
 intro t
 induction t with
 | empty => intro u h; cases u <;> simp only [fO] at h; rfl
 | bol => intro u h; cases u <;> simp only [fO] at h; rfl
 | eol => intro u h; cases u <;> simp only [fO] at h; rfl
 | bytes p => intro u h; cases u <;> simp only [fO] at h; rfl
 | ref m => intro u h; cases u <;> simp only [fO] at h; rfl
 | cat a b iha ihb => intro u h; cases u <;> simp only [fO] at h; simp only [Pt.sz]; rw [iha _ h.1, ihb _ h.2]
 | alt a b iha ihb => intro u h; cases u <;> simp only [fO] at h; simp only [Pt.sz]; rw [iha _ h.1, ihb _ h.2]
 | times a lo hi iha => intro u h; cases u <;> simp only [fO] at h; simp only [Pt.sz]; rw [iha _ h.1]
 | group a n iha => intro u h; cases u <;> simp only [fO] at h; simp only [Pt.sz]; rw [iha _ h]
theorem Tw {s : List UInt8} (h : s ≠ []) : jS s = match dM 11 s 0 lX with
  | .er e k => .inr (e, s.length - k)
  | .ok t r _ _ =>
   match r with
   | [] => match t with
    | none => .inr (41, s.length)
    | some t => bif decide (t.sz > 120) then .inr (2, 0) else .inl t
   | _ => .inr (41, s.length - r.length) := by
 cases s with
 | nil => exact absurd rfl h
 | cons c s => rfl
theorem Tx {s : List UInt8} {t : Pt} (h : jS s = .inl t) : ∃ u, jS (bA t) = .inl u ∧ fO t u := by
 cases s with
 | nil => simp only [jS, Sum.inl.injEq] at h; subst h; exact ⟨.empty, rfl, trivial⟩
 | cons c s0 =>
  rw [Tw (by simp)] at h
  cases ho : dM 11 (c :: s0) 0 lX with
  | er e k => rw [ho] at h; simp at h
  | ok t2 r b2 en2 =>
   rw [ho] at h
   simp only at h
   cases r with
   | cons c2 r2 => simp at h
   | nil =>
    cases t2 with
    | none => simp at h
    | some t2 =>
     simp only at h
     cases Lu : decide (t2.sz > 120) <;> rw [Lu] at h <;> simp only [cond_true, cond_false, Sum.inl.injEq, reduceCtorEq] at h
     subst h
     obtain ⟨u, u1, u2⟩ := zNk 11 _ 0 lX t2 _ _ _ (by omega) rfl ho [] rfl
     rw [List.append_nil] at u1
     refine ⟨u, ?_, u2⟩
     have hne : bA t2 ≠ [] := by
      intro hn
      rw [hn, show dM 11 [] 0 lX = .ok none [] 0 lX from rfl] at u1
      simp at u1
     rw [Tw hne, u1]
     simp only
     rw [<- zSs _ _ u2, Lu]; rfl
theorem zCs {t u : Pt} (ht : uH t) (hu : uH u) (h : fO t u) : t.enc 0 = u.enc 0 :=
 (zKg t u 0 0 lX lX false false h ht.2.2 hu.2.2).1
theorem zNl {n : Nat} {s : List UInt8} {t : Pt} (h : jS s = .inl t) (hn : 200000 <= n) : iW n (bA t) = some (t.enc 0, 0, 0) := by
 obtain ⟨u, u1, u2⟩ := Tx h
 have hg := tJ h
 have hl := iN t
 have hs := hg.1
 rw [Ca (by omega) (by omega), u1]
 simp only [Ey]
 rw [zCs hg (tJ u1) u2]
theorem Ii (s : List UInt8) (_ : Rl [.str] s) : yS 200000 s = some true := by
 unfold yS
 simp only
 rw [zKh]
 by_cases h : s.length > 300
 ·rw [aF (by simp; omega)]; rfl
 ·rw [aB (by simp; omega)]
  simp only [aH, Bool.not_true, aZ]
  rw [Ca (by omega) (by omega)]
  simp only [aH]
  have hg := Td s
  cases hp : jS s with
  | inr x =>
   obtain ⟨e, k⟩ := x
   rw [hp] at hg
   simp only at hg
   simp only [Ey]
   rw [aF (by simp; omega)]; rfl
  | inl t =>
   have hgp := tJ hp
   simp only [Ey]
   rw [aB (by rfl)]
   rw [Mc (by omega) hgp]
   simp only [aH]
   have hpT : Tn t = (bA t, 0) := by
    obtain ⟨u, u1, u2⟩ := Tx hp
    have hgu := tJ u1
    unfold Tn
    rw [u1]
    simp only
    rw [show (bR u == bR t) = true by rw [beq_iff_eq]; exact (zNg hgu hgp).2 (zCs hgp hgu u2).symm]; rfl
   rw [hpT]
   simp only
   rw [zNl hp (by omega)]
   simp only [aH]
   rw [Mc (by omega) hgp, hpT]
   simp only [aH]
   rw [aF (by rfl), aF (by rfl), aF (by rfl), vY (by omega) hgp]
   simp only [aH]
   rw [aF (by simp)]
   simp
end Go.Dec
namespace Go.Dec
end Go.Dec
