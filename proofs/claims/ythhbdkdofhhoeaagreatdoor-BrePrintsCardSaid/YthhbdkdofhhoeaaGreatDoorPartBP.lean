/- Part of a proof over this seat: a library of my own, and what it says of this seat. No statement is proved here. -/
import Derived.Test.YthhbdkdofhhoeaaGreatDoorPartBO
namespace Go.Dec
theorem zbj : ((List.range 10).all fun i => ((([48, 49, 50, 51, 52, 53, 54, 55, 56, 57] : List UInt8).take (i + 1)).drop i) == [UInt8.ofNat (48 + i)]) = true := by decide +kernel
theorem KW : ∀ k u, (uW k u).length <= k := by
 intro k
 induction k with
 | zero => intro u; simp [uW]
 | succ k ih => intro u; unfold uW; split; simp; have := ih (u / 10); simp; omega
theorem MS : ∀ (k m x : Nat), x < 10 ^ k -> x < 2 ^ 63 -> k <= m -> 1 <= k -> k < 100 -> kD m (x : Int) = some (uW k x) := by
 intro k
 induction k with
 | zero => intro m x _ _ _ h; omega
 | succ k ih =>
  intro m x hx hx2 hm _ hkb
  obtain ⟨m, rfl⟩ : ∃ j, m = j + 1 := ⟨m - 1, by omega⟩
  have SA : kD (m + 1) (x : Int) = nA m (kD m) (x : Int) := rfl
  rw [SA]
  unfold nA uW
  simp only
  have X5 : ∀ d : Nat, d < 10 -> (chk ((decide (0 <= IntKind.wrap .u64 ((d : Int) + 1)) && decide (IntKind.wrap .u64 ((d : Int) + 1) <= ([48, 49, 50, 51, 52, 53, 54, 55, 56, 57].length : Int)) && (decide (0 <= (d : Int)) && decide ((d : Int) <= IntKind.wrap .u64 ((d : Int) + 1)))) : Bool) (some (([48, 49, 50, 51, 52, 53, 54, 55, 56, 57] : List UInt8).take (IntKind.wrap .u64 ((d : Int) + 1)).toNat |>.drop (d : Int).toNat)) : Option (List UInt8)) = some [UInt8.ofNat (48 + d)] := by
   intro d hd
   have hw : IntKind.wrap .u64 ((d : Int) + 1) = ((d + 1 : Nat) : Int) := by rw [IntWalk.u64_in _ (by omega)]; rfl
   rw [hw, ah (by simp; omega), Int.toNat_natCast, Int.toNat_natCast]
   have := qh zbj hd
   rw [beq_iff_eq] at this
   rw [this]
  by_cases h10 : x < 10
  ·rw [au (by simp; omega), if_pos h10]
   exact X5 x h10
  ·rw [aj (by simp; omega), if_neg h10, ah (by decide)]
   have hdiv : IntKind.wrap .u64 (Int.tdiv (x : Int) 10) = ((x / 10 : Nat) : Int) := by
    rw [show Int.tdiv (x : Int) 10 = ((x / 10 : Nat) : Int) from (Int.ofNat_tdiv x 10).symm, IntWalk.u64_in _ (by omega)]
   have hmod : Int.tmod (x : Int) 10 = ((x % 10 : Nat) : Int) := (Int.ofNat_tmod x 10).symm
   rw [hdiv, hmod]
   have hk : 1 <= k := by
    rcases Nat.eq_zero_or_pos k with h | h
    ·subst h; omega
    ·exact h
   rw [ih m (x / 10) (by rw [Nat.pow_succ] at hx; omega) (by omega) (by omega) hk (by omega)]
   simp only [aA]
   rw [ah (by decide), ah (by decide)]
   have hs := X5 (x % 10) (by omega)
   have hw : IntKind.wrap .u64 (((x % 10 : Nat) : Int) + 1) = ((x % 10 + 1 : Nat) : Int) := by rw [IntWalk.u64_in _ (by omega)]; rfl
   rw [hw] at hs ⊢
   rw [ah (by simp; omega)] at hs ⊢
   simp only [Option.some.injEq] at hs
   rw [hs]
   have := KW k (x / 10)
   rw [ah (by simp [av]; omega)]
theorem Io {n : Nat} {x : Int} (hn : 20 <= n) (h1 : -1 <= x) (h2 : x < 1000000) : fq n x = some (dH x) := by
 unfold fq dH
 simp only
 by_cases h : x < 0
 ·have : x = -1 := by omega
  subst this
  rw [au (by rfl), if_pos (by omega)]
  have e : IntKind.wrap .u64 (IntKind.wrap .u64 (IntKind.wrap .i64 (0 - IntKind.wrap .i64 (-1 + 1))) + 1) = ((1 : Nat) : Int) := by decide +kernel
  rw [e, MS 20 n 1 (by decide) (by decide) hn (by omega) (by omega)]
  rfl
 ·obtain ⟨k, rfl⟩ : ∃ k : Nat, x = (k : Int) := ⟨x.toNat, by omega⟩
  have hk : k < 10 ^ 20 := Nat.lt_of_lt_of_le (show k < 10 ^ 6 by omega) (Nat.pow_le_pow_right (by omega) (by omega))
  rw [aj (by simp), if_neg h, IntWalk.u64_in _ (by omega), MS 20 n k hk (by omega) hn (by omega) (by omega)]
  rfl
theorem Ai {n : Nat} {x : Int} (h1 : -1 <= x) (h2 : x < 1000000) : strconv_Itoa n x = some (dH x) := by
 unfold strconv_Itoa
 rw [ah (by simp; omega)]
theorem iL {x : Int} : (dH x).length <= 21 := by
 unfold dH
 have := KW 20 x.natAbs
 have := KW 20 x.toNat
 split <;> simp <;> omega
theorem ZL (p : Nat -> Bool) (k : Nat) : Lv k (yu p k) = ((List.range 64).filter fun j => p (64 * k + j)).map fun j => UInt8.ofNat (64 * k + j) := by
 unfold Lv
 congr 1
 apply List.filter_congr
 intro j hj
 rw [xJ]
 have : j < 64 := by simpa using hj
 simp [this]
theorem WQ (p : Nat -> Bool) (k : Nat) : (((List.range 64).map fun j => 64 * k + j).filter p).map UInt8.ofNat = ((List.range 64).filter fun j => p (64 * k + j)).map fun j => UInt8.ofNat (64 * k + j) := by
 rw [List.filter_map, List.map_map]; rfl
theorem X6 (p : Nat -> Bool) : kI (wd p) = aU p := by
 have e : List.range 256 = (List.range 64).map (fun j => 64 * 0 + j) ++ (List.range 64).map (fun j => 64 * 1 + j) ++ (List.range 64).map (fun j => 64 * 2 + j) ++ (List.range 64).map (fun j => 64 * 3 + j) := by decide +kernel
 unfold aU
 rw [e]
 simp only [List.filter_append, List.map_append, WQ]
 unfold kI wd
 simp only [zO, word, Int.toNat_natCast, ZL, List.append_nil, List.append_assoc]
theorem Ip {n : Nat} (p : Nat -> Bool) : rz n (wd p) = some (aU p) := by
 unfold rz
 have h : ∀ k, 0 <= word p k ∧ word p k < 18446744073709551616 := fun k => by have := nZ p k; unfold word; omega
 rw [ah (by
  rw [Bool.and_eq_true, List.all_eq_true]
  refine ⟨rfl, fun w hw => ?_⟩
  have : w = word p 0 ∨ w = word p 1 ∨ w = word p 2 ∨ w = word p 3 := by simpa [wd] using hw
  rcases this with rfl | rfl | rfl | rfl <;> simp [h]), X6]
def rU (l : List UInt8) : List UInt8 := l.flatMap fun c => [hexDigit (c.toNat / 16), hexDigit (c.toNat % 16)]
def bQ : Pt -> List UInt8
 | .empty => [101]
 | .bytes p => [91] ++ rU (aU p) ++ [93]
 | .bol => [94]
 | .eol => [36]
 | .cat a b => [38] ++ (bQ a ++ bQ b)
 | .alt a b => [124] ++ (bQ a ++ bQ b)
 | .times a lo hi => [42] ++ dH lo ++ [44] ++ dH hi ++ [59] ++ bQ a
 | .group a _ => [40] ++ bQ a ++ [41]
 | .ref m => [92] ++ dH (m : Int)
theorem KX (l : List UInt8) : (rU l).length = 2 * l.length := by
 induction l with
 | nil => rfl
 | cons c l ih => simp only [rU, List.flatMap_cons, List.length_append] at ih ⊢; rw [ih]; simp; omega
theorem jv : ∀ t : Pt, (bQ t).length <= 600 * t.sz
 | .empty | .bol | .eol => by simp [bQ, Pt.sz]
 | .bytes p => by have := EL p; simp [bQ, Pt.sz, KX]; omega
 | .cat a b => by have := jv a; have := jv b; simp [bQ, Pt.sz]; omega
 | .alt a b => by have := jv a; have := jv b; simp [bQ, Pt.sz]; omega
 | .times a lo hi => by have := jv a; have := @iL lo; have := @iL hi; simp [bQ, Pt.sz]; omega
 | .group a _ => by have := jv a; simp [bQ, Pt.sz]; omega
 | .ref m => by have := @iL (m : Int); simp [bQ, Pt.sz]; omega
section
variable {n : Nat} {l : List Nd}
theorem zao {d : Nat} (hd : d < 16) : iN n ((d : Int), 16) = some [hexDigit d] := by
 unfold iN
 simp only
 rw [ah (by simp; omega), Int.toNat_natCast]
theorem X7 {bs : List UInt8} {i : Nat} (h : i < bs.length) : rU (bs.take (i + 1)) = rU (bs.take i) ++ [hexDigit (bs[i].toNat / 16), hexDigit (bs[i].toNat % 16)] := by
 have e : bs.take (i + 1) = bs.take i ++ [bs[i]] := by rw [List.take_add_one, List.getElem?_eq_getElem h]; rfl
 rw [e]; unfold rU; rw [List.flatMap_append]; rfl
theorem vD (bs : List UInt8) : (aY bs).length = bs.length := by simp [aY]
theorem Td {bs : List UInt8} {i : Nat} (h : i < bs.length) (d : Int) : aG d (aY bs) (i : Int) = (bs[i].toNat : Int) := by
 rw [eT (by rw [vD]; exact h)]; simp [aY]
theorem ZM {g0 : List Nd × Int × Int × List (List UInt8) × Unit -> Option (List UInt8)} {k : Int} {tl : List Nd} {t15 t16 : Int} {row : List (List UInt8)} {bs : List UInt8} (hb : bs.length <= 256) : ∀ (c i m : Nat), i + c = bs.length -> c < m ->
  fix (uN n g0) m (k, [91] ++ rU (bs.take i), tl, t15, t16, aY bs, ((aY bs).length : Int), (i : Int), row, ()) =
   (chk ((decide (0 <= k) && decide (k <= (row.length : Int)))) (
    chk ((Nat.ble (k.toNat) row.length && Nat.ble (((k.toNat) + 1) * 16) room)) (
     g0 (tl, t15, IntKind.wrap .i64 (t16 + 1), row.take (k.toNat) ++ [[91] ++ rU bs ++ [93]], ())))) := by
 intro c
 induction c with
 | zero =>
  intro i m hi hm
  rw [aX hm, uN]
  simp only
  rw [aj (by rw [vD]; simp; omega), List.take_of_length_le (by omega), ah (by have := KX bs; simp [av]; omega)]
  rfl
 | succ c ih =>
  intro i m hi hm
  have hil : i < bs.length := by omega
  have hc := bs[i].toNat_lt
  rw [aX (by omega), uN]
  simp only
  rw [au (by rw [vD]; simp; omega), ah (dM (by rw [vD]; exact hil)), Td hil, ah (by decide), IntWalk.u64_in (bs[i].toNat : Int) (by omega)]
  rw [show Int.tdiv (bs[i].toNat : Int) 16 = ((bs[i].toNat / 16 : Nat) : Int) from (Int.ofNat_tdiv _ 16).symm, show Int.tmod (bs[i].toNat : Int) 16 = ((bs[i].toNat % 16 : Nat) : Int) from (Int.ofNat_tmod _ 16).symm]
  rw [IntWalk.u64_in _ (by omega), zao (by omega), aA, ah (by decide), zao (by omega), aA]
  have hlen := KX (bs.take i)
  have htl : (bs.take i).length = i := by rw [List.length_take]; omega
  rw [ah (by simp [av]), ah (by simp [av]; omega), aK (by omega) (by omega), show (i : Int) + 1 = ((i + 1 : Nat) : Int) by omega]
  have := ih (i + 1) (m - 1) (by omega) (by omega)
  rw [X7 hil] at this
  simpa using this
def ES (v : NV) (y : List UInt8) : List UInt8 :=
 match v with
 | .empty => [101]
 | .bytes p => [91] ++ rU (aU p) ++ [93]
 | .bol => [94]
 | .eol => [36]
 | .cat _ _ => [38] ++ y
 | .alt _ _ => [124] ++ y
 | .times _ lo hi => [42] ++ dH lo ++ [44] ++ dH hi ++ [59] ++ y
 | .group _ _ => [40] ++ y ++ [41]
 | .ref m => [92] ++ dH (m : Int)
def NV.MU : NV -> Bool
 | .times _ lo hi => decide (-1 <= lo) && decide (lo < 1000000) && (decide (-1 <= hi) && decide (hi < 1000000))
 | .ref m => decide (m < 1000000)
 | _ => true
theorem join_eq {xs : List (List UInt8)} (h : xs.length <= 2) (hl : xs.flatten.length < 1000000) : strings_Join n (xs, []) = some xs.flatten := by
 match xs, h with
 | [], _ => rfl
 | [x], _ =>
  simp only [List.flatten_cons, List.flatten_nil, List.append_nil] at hl ⊢
  unfold strings_Join
  rw [ah (by simp [uI, room]; omega)]; rfl
 | [x, y], _ =>
  simp only [List.flatten_cons, List.flatten_nil, List.append_nil] at hl ⊢
  rw [List.length_append] at hl
  unfold strings_Join
  rw [ah (by simp [uI, room]; omega)]; simp [uI]
theorem Pk {g : List Nd × Int × Int × List (List UInt8) × Unit -> Option (List UInt8)} {i : Nat} {v : NV} {pre xs : List (List UInt8)} (hn : 300 <= n) (hl : l.length < 1000000) (hv : l[i]? = some v.node) (hx : xs.length = v.parts) (hp : pre.length < 1000000) (hj : xs.flatten.length < 1000000) (ET : v.MU = true) :
    fV n g (l, (l.length : Int), (i : Int), pre ++ xs, ()) = g (l, (l.length : Int), ((i + 1 : Nat) : Int), pre ++ [ES v xs.flatten], ()) := by
  have hi : i < l.length := (List.getElem?_eq_some_iff.1 hv).1
  have hx2 : xs.length <= 2 := by rw [hx]; cases v <;> simp [NV.parts]
  have hget : ∀ d, aG d l (i : Int) = v.node := by
    intro d
    rw [eT hi]
    rw [List.getElem?_eq_getElem hi] at hv
    exact Option.some.inj hv
  unfold fV
  simp only
  rw [au (by simp; omega), ah (dM hi), hget, parts_eq, aA]
  have zer : IntKind.wrap .i64 (((pre ++ xs).length : Int) - (v.parts : Int)) = (pre.length : Int) := by
    rw [List.length_append, hx, aK (by omega) (by omega)]; omega
  rw [zer, ah (by simp; omega), Int.toNat_natCast]
  have hdrop : ((pre ++ xs).drop (0 + pre.length)).take ((pre ++ xs).length - pre.length) = xs := by
    rw [Nat.zero_add, List.drop_left, List.take_of_length_le (by simp)]
  rw [ah (by simp), hdrop, join_eq hx2 hj, aA]
  have hput : ∀ y : List UInt8, chk ((decide ((0 : Int) <= (pre.length : Int)) && decide ((pre.length : Int) <= ((pre ++ xs).length : Int)))) (
        chk ((Nat.ble pre.length (pre ++ xs).length && Nat.ble ((pre.length + ([y] : List (List UInt8)).length) * 16) room)) (
          g (l, (l.length : Int), IntKind.wrap .i64 ((i : Int) + 1), (pre ++ xs).take pre.length ++ [y], ()))) = g (l, (l.length : Int), ((i + 1 : Nat) : Int), pre ++ [y], ()) := by
    intro y
    rw [ah (by simp; omega), ah (by simp [room]; omega), aK (by omega) (by omega), List.take_left]; rfl
  cases v with
  | empty => rw [au (by rfl)]; exact hput [101]
  | bytes p =>
    simp only [NV.node, NV.parts, List.length_eq_zero_iff] at hx ⊢
    subst hx
    rw [aj (by rfl), au (by rfl), Ip, aA]
    have hb := EL p
    rw [ah (by simp [room]; omega)]
    have := ZM (n := n) (g0 := g) (k := (pre.length : Int)) (tl := l) (t15 := (l.length : Int)) (t16 := (i : Int)) (row := pre ++ []) (bs := aU p) hb (aU p).length 0 n (by omega) (by omega)
    simp only [List.take_zero, rU, List.flatMap_nil, List.append_nil, Int.toNat_natCast] at this hput ⊢
    rw [show ((0 : Nat) : Int) = 0 from rfl] at this
    rw [this]
    exact hput _
  | bol => rw [aj (by rfl), aj (by rfl), au (by rfl)]; exact hput [94]
  | eol => rw [aj (by rfl), aj (by rfl), aj (by rfl), au (by rfl)]; exact hput [36]
  | cat a b =>
    rw [aj (by rfl), aj (by rfl), aj (by rfl), aj (by rfl), au (by rfl), ah (by simp [av]; simp at hj; omega)]
    exact hput _
  | alt a b =>
    rw [aj (by rfl), aj (by rfl), aj (by rfl), aj (by rfl), aj (by rfl), au (by rfl), ah (by simp [av]; simp at hj; omega)]
    exact hput _
  | times a lo hi =>
    simp only [NV.MU, Bool.and_eq_true, decide_eq_true_eq] at ET
    have h1 := @iL lo
    have h2 := @iL hi
    simp only [NV.node]
    rw [aj (by rfl), aj (by rfl), aj (by rfl), aj (by rfl), aj (by rfl), aj (by rfl), au (by rfl), Ai ET.1.1 ET.1.2, aA, ah (by simp [av]; omega), ah (by simp [av]; omega), Ai ET.2.1 ET.2.2, aA, ah (by simp [av]; omega), ah (by simp [av]; omega), ah (by simp [av]; simp at hj; omega)]
    exact hput _
  | group a m =>
    rw [aj (by rfl), aj (by rfl), aj (by rfl), aj (by rfl), aj (by rfl), aj (by rfl), aj (by rfl), au (by rfl), ah (by simp [av]; simp at hj; omega), ah (by simp [av]; simp at hj; omega)]
    exact hput _
  | ref m =>
    simp only [NV.MU, decide_eq_true_eq] at ET
    have h1 := @iL (m : Int)
    simp only [NV.node]
    rw [aj (by rfl), aj (by rfl), aj (by rfl), aj (by rfl), aj (by rfl), aj (by rfl), aj (by rfl), aj (by rfl), au (by rfl), Ai (by omega) (by omega), aA, ah (by simp [av]; omega)]
    exact hput _
theorem Te (t : Pt) (o : Nat) (h : bD t = true) : (t.nv o).MU = true := by
 cases t <;> simp only [Pt.nv, NV.MU]
 case times a lo hi =>
  simp only [bD, fB, Bool.and_eq_true, Bool.or_eq_true, decide_eq_true_eq] at h
  simp only [Bool.and_eq_true, decide_eq_true_eq]
  omega
 case ref m =>
  simp only [bD, Bool.and_eq_true, decide_eq_true_eq] at h
  simp only [decide_eq_true_eq]; omega
theorem X8 (hn : 300 <= n) (hl : l.length < 1000) : ∀ (t : Pt) (o m : Nat) (row : List (List UInt8)), At l o t -> bD t = true -> t.sz < m -> row.length <= o ->
  fix (fV n) m (l, (l.length : Int), (o : Int), row, ()) = fix (fV n) (m - t.sz) (l, (l.length : Int), ((o + t.sz : Nat) : Int), row ++ [bQ t], ()) := by
 have leaf : ∀ (t : Pt), t.sz = 1 -> (∀ o, (t.nv o).parts = 0) -> (∀ o, ES (t.nv o) [] = bQ t) -> ∀ (o m : Nat) (row : List (List UInt8)), At l o t -> bD t = true -> t.sz < m -> row.length <= o ->
   fix (fV n) m (l, (l.length : Int), (o : Int), row, ()) = fix (fV n) (m - t.sz) (l, (l.length : Int), ((o + t.sz : Nat) : Int), row ++ [bQ t], ()) := by
  intro t h1 h2 h3 o m row h hf hm hr
  have hlen := h.len
  have hnd := h.node
  rw [h1] at hnd hm hlen ⊢
  rw [Nat.add_sub_cancel] at hnd
  rw [aX (by omega)]
  have := Pk (n := n) (g := fix (fV n) (m - 1)) (pre := row) (xs := []) hn (by omega) hnd (by rw [h2]; rfl) (by omega) (by simp) (Te t o hf)
  rw [List.append_nil] at this
  rw [this, List.flatten_nil, h3]
 have fin : ∀ (t : Pt) (o m k : Nat) (row xs : List (List UInt8)), At l o t -> bD t = true -> k + 1 = t.sz -> t.sz < m -> row.length <= o -> xs.length = (t.nv o).parts -> xs.flatten.length < 1000000 -> ES (t.nv o) xs.flatten = bQ t ->
   fix (fV n) (m - k) (l, (l.length : Int), ((o + k : Nat) : Int), row ++ xs, ()) = fix (fV n) (m - t.sz) (l, (l.length : Int), ((o + t.sz : Nat) : Int), row ++ [bQ t], ()) := by
  intro t o m k row xs h hf hk hm hr hx hj ht
  have hlen := h.len
  have hnd := h.node
  rw [show o + t.sz - 1 = o + k by omega] at hnd
  rw [aX (by omega), Pk (n := n) hn (by omega) hnd hx (by omega) hj (Te t o hf), ht]
  rw [show m - k - 1 = m - t.sz by omega, show o + k + 1 = o + t.sz by omega]
 intro t
 induction t with
 | empty => exact leaf .empty rfl (fun _ => rfl) (fun _ => rfl)
 | bytes p => exact leaf (.bytes p) rfl (fun _ => rfl) (fun _ => rfl)
 | bol => exact leaf .bol rfl (fun _ => rfl) (fun _ => rfl)
 | eol => exact leaf .eol rfl (fun _ => rfl) (fun _ => rfl)
 | ref k => exact leaf (.ref k) rfl (fun _ => rfl) (fun _ => rfl)
 | cat a b iha ihb =>
  intro o m row h hf hm hr
  have hlen := h.len
  have hfa := hf
  simp only [bD, Bool.and_eq_true] at hfa
  have hsz : (Pt.cat a b).sz = a.sz + b.sz + 1 := rfl
  have la := jv a
  have lb := jv b
  have pa := a.bT
  have pb := b.bT
  rw [iha o m row h.zn.1 hfa.1 (by omega) hr, ihb (o + a.sz) (m - a.sz) (row ++ [bQ a]) h.zn.2 hfa.2 (by omega) (by simp; omega)]
  have := fin (.cat a b) o m (a.sz + b.sz) row [bQ a, bQ b] h hf (by omega) hm hr rfl (by simp; omega) (by simp [Pt.nv, ES, bQ])
  rw [<- this, List.append_assoc, Nat.sub_sub, Nat.add_assoc]; rfl
 | alt a b iha ihb =>
  intro o m row h hf hm hr
  have hlen := h.len
  have hfa := hf
  simp only [bD, Bool.and_eq_true] at hfa
  have hsz : (Pt.alt a b).sz = a.sz + b.sz + 1 := rfl
  have la := jv a
  have lb := jv b
  have pa := a.bT
  have pb := b.bT
  rw [iha o m row h.alt1.1 hfa.1 (by omega) hr, ihb (o + a.sz) (m - a.sz) (row ++ [bQ a]) h.alt1.2 hfa.2 (by omega) (by simp; omega)]
  have := fin (.alt a b) o m (a.sz + b.sz) row [bQ a, bQ b] h hf (by omega) hm hr rfl (by simp; omega) (by simp [Pt.nv, ES, bQ])
  rw [<- this, List.append_assoc, Nat.sub_sub, Nat.add_assoc]; rfl
 | times a lo hi iha =>
  intro o m row h hf hm hr
  have hlen := h.len
  have hfa := hf
  simp only [bD, Bool.and_eq_true] at hfa
  have hsz : (Pt.times a lo hi).sz = a.sz + 1 := rfl
  have la := jv a
  rw [iha o m row h.DW hfa.1 (by omega) hr]
  exact fin (.times a lo hi) o m a.sz row [bQ a] h hf (by omega) hm hr rfl (by simp; omega) (by simp [Pt.nv, ES, bQ])
 | group a k iha =>
  intro o m row h hf hm hr
  have hlen := h.len
  have hfa := hf
  simp only [bD, Bool.and_eq_true] at hfa
  have hsz : (Pt.group a k).sz = a.sz + 1 := rfl
  have la := jv a
  rw [iha o m row h.DX hfa.1 (by omega) hr]
  exact fin (.group a k) o m a.sz row [bQ a] h hf (by omega) hm hr rfl (by simp; omega) (by simp [Pt.nv, ES, bQ])
theorem z8 {t : Pt} (hn : 300 <= n) (h : ou t) : Ag n (t.enc 0) = some (bQ t) := by
 unfold Ag
 simp only
 rw [U7 (by omega) h]
 simp only [aA, Bool.not_true, aM]
 have hsz := h.1
 have hlen := t.aZ 0
 have := X8 (n := n) (l := t.enc 0) hn (by omega) t 0 n [] (At.self t) h.2.1.1 (by omega) (by simp)
 rw [show ((0 : Nat) : Int) = 0 from rfl] at this
 rw [this, aX (by omega), fV]
 simp only
 rw [aj (by rw [hlen]; simp), ah (by simp [inB]), ah (by simp)]
 rfl
end
end Go.Dec
namespace Go.Dec
section
variable {n : Nat} {w : List Int} {a b lo hi m : Int} {u : Unit}
theorem zdp : bC n (0, w, a, b, lo, hi, m, u) = br (Ty.beq ak (0, [0, 0, 0, 0], 0, 0, 0, 0, 0, ()) (0, w, a, b, lo, hi, m, ())) (some true) (some false) := by
 simp [bC, bZ, bG, bX]
theorem zdq : bC n (1, w, a, b, lo, hi, m, u) = br (Ty.beq (.arr 4 (.int .u64)) w [0, 0, 0, 0]) (some false) (br (Ty.beq ak (1, w, 0, 0, 0, 0, 0, ()) (1, w, a, b, lo, hi, m, ())) (some true) (some false)) := by
 simp [bC, bZ, bG, bX]
theorem zdr : bC n (2, w, a, b, lo, hi, m, u) = br (Ty.beq ak (2, [0, 0, 0, 0], 0, 0, 0, 0, 0, ()) (2, w, a, b, lo, hi, m, ())) (some true) (some false) := by
 simp [bC, bZ, bG, bX]
theorem zds : bC n (3, w, a, b, lo, hi, m, u) = br (Ty.beq ak (3, [0, 0, 0, 0], 0, 0, 0, 0, 0, ()) (3, w, a, b, lo, hi, m, ())) (some true) (some false) := by
 simp [bC, bZ, bG, bX]
theorem zdu : bC n (4, w, a, b, lo, hi, m, u) = br (Ty.beq ak (4, [0, 0, 0, 0], a, b, 0, 0, 0, ()) (4, w, a, b, lo, hi, m, ())) (some true) (some false) := by
 simp [bC, bZ, bG, fF, bX]
theorem zdv : bC n (5, w, a, b, lo, hi, m, u) = br (Ty.beq ak (5, [0, 0, 0, 0], a, b, 0, 0, 0, ()) (5, w, a, b, lo, hi, m, ())) (some true) (some false) := by
 simp [bC, bZ, bG, fF, bX]
theorem zdw : bC n (6, w, a, b, lo, hi, m, u) = br (decide (lo < 0)) (some false) (br (decide (lo > 255)) (some false) (br (hi != (-1)) (br (decide (hi < lo)) (some false) (br (decide (hi < 1)) (some false) (br (decide (hi > 255)) (some false)
  (br (Ty.beq ak (6, [0, 0, 0, 0], a, 0, lo, hi, 0, ()) (6, w, a, b, lo, hi, m, ())) (some true) (some false))))) (br (Ty.beq ak (6, [0, 0, 0, 0], a, 0, lo, hi, 0, ()) (6, w, a, b, lo, hi, m, ())) (some true) (some false)))) := by
 unfold bC
 simp only
 rw [aj (by rfl), aj (by rfl), bX]
 unfold bZ
 simp only
 rw [aj (by rfl), aj (by rfl), aj (by rfl), bX]
 unfold fF
 simp only
 rw [aj (by rfl), au (by rfl)]
 simp only [bX, bG]
 rfl
theorem zdx : bC n (7, w, a, b, lo, hi, m, u) = br (Ty.beq ak (7, [0, 0, 0, 0], a, 0, 0, 0, m, ()) (7, w, a, b, lo, hi, m, ())) (br (decide (m ≥ 1)) (some (decide (m <= 9))) (some false)) (some false) := by
 simp [bC, bZ, bG, fF, bX]
theorem zdy : bC n (8, w, a, b, lo, hi, m, u) = br (Ty.beq ak (8, [0, 0, 0, 0], 0, 0, 0, 0, m, ()) (8, w, a, b, lo, hi, m, ())) (br (decide (m ≥ 1)) (some (decide (m <= 9))) (some false)) (some false) := by
 simp [bC, bZ, bG, fF, bX]
theorem zdz {k : Int} (h : k < 0 ∨ 8 < k) : bC n (k, w, a, b, lo, hi, m, u) = some false := by
 have e : ∀ j : Int, 0 <= j -> j <= 8 -> (k == j) = false := fun j h1 h2 => by rw [Bool.eq_false_iff, ne_eq, beq_iff_eq]; omega
 simp [bC, bZ, fF, bX, e]
end
theorem Iq {n : Nat} {nd : Nd} (hw : BA nd) : I8 nd (bC n nd) := by
 obtain ⟨k, w, a, b, lo, hi, m, u⟩ := nd
 obtain ⟨p, hp⟩ := hw
 simp only at hp
 subst hp
 by_cases hk : k < 0 ∨ 8 < k
 ·rw [zdz hk]
  exact Or.inr ⟨rfl, fun v hv => by have := Im v; rw [<- hv] at this; simp only at this; omega⟩
 have hcase : k = 0 ∨ k = 1 ∨ k = 2 ∨ k = 3 ∨ k = 4 ∨ k = 5 ∨ k = 6 ∨ k = 7 ∨ k = 8 := by omega
 have hbad : ∀ {nd' : Nd} {X : Option Bool}, (∀ v : NV, (k, wd p, a, b, lo, hi, m, u) = v.node -> (k, wd p, a, b, lo, hi, m, u) = nd') -> ¬ nd' = (k, wd p, a, b, lo, hi, m, ()) -> I8 (k, wd p, a, b, lo, hi, m, u) (br (Ty.beq ak nd' (k, wd p, a, b, lo, hi, m, ())) X (some false)) := by
  intro nd' X h1 h2
  rw [WI h2]
  exact Or.inr ⟨rfl, fun v hv => absurd (h1 v hv).symm h2⟩
 have hgood : ∀ {nd' : Nd} {X : Option Bool}, nd' = (k, wd p, a, b, lo, hi, m, ()) -> (br (Ty.beq ak nd' (k, wd p, a, b, lo, hi, m, ())) X (some false)) = X := by
  intro nd' X h
  rw [WH h]; rfl
 have ET : ∀ {k : Int} {w : List Int} {a b lo hi : Int} {c : Nat -> NV}, (∀ m' : Nat, (k, w, a, b, lo, hi, (m' : Int), ()) = (c m').node) -> (∀ m', (c m').ok = (decide (1 <= m') && decide (m' <= 9))) -> (∀ v : NV, (k, w, a, b, lo, hi, m, u) = v.node -> ∃ m' : Nat, m = (m' : Int) ∧ v.ok = (decide (1 <= m') && decide (m' <= 9))) ->
   I8 (k, w, a, b, lo, hi, m, u) (br (decide (m ≥ 1)) (some (decide (m <= 9))) (some false)) := by
  intro k w a b lo hi c h1 h2 h3
  by_cases g1 : 1 <= m
  ·rw [au (by simp; omega)]
   by_cases g2 : m <= 9
   ·obtain ⟨m', rfl⟩ : ∃ m' : Nat, m = (m' : Int) := ⟨m.toNat, by omega⟩
    rw [decide_eq_true g2]
    exact Or.inl ⟨rfl, c m', h1 m', by rw [h2]; simp; omega⟩
   ·rw [decide_eq_false g2]
    refine Or.inr ⟨rfl, fun v hv => ?_⟩
    obtain ⟨m', e1, e2⟩ := h3 v hv
    rw [e2]; simp; omega
  ·rw [aj (by simp; omega)]
   refine Or.inr ⟨rfl, fun v hv => ?_⟩
   obtain ⟨m', e1, e2⟩ := h3 v hv
   rw [e2]; simp; omega
 rcases hcase with rfl | rfl | rfl | rfl | rfl | rfl | rfl | rfl | rfl
 ·rw [zdp]
  by_cases h : ((0, [0, 0, 0, 0], 0, 0, 0, 0, 0, ()) : Nd) = (0, wd p, a, b, lo, hi, m, ())
  ·rw [hgood h]; exact Or.inl ⟨rfl, .empty, h.symm, rfl⟩
  ·exact hbad (fun v hv => by rw [hv]; cases v <;> simp [NV.node] at hv ⊢) h
 ·rw [zdq, lC]
  cases he : dR p
  ·rw [aM]
   by_cases h : ((1, wd p, 0, 0, 0, 0, 0, ()) : Nd) = (1, wd p, a, b, lo, hi, m, ())
   ·rw [hgood h]; exact Or.inl ⟨rfl, .bytes p, h.symm, by simp [NV.ok, he]⟩
   ·exact hbad (fun v hv => by rw [hv]; cases v <;> simp [NV.node] at hv ⊢; exact hv.1.symm) h
  ·refine Or.inr ⟨rfl, fun v hv => ?_⟩
   have e1 := congrArg (fun x : Nd => x.2.1) hv
   have e0 := congrArg (fun x : Nd => x.1) hv
   cases v <;> simp [NV.node] at e0 e1
   simp only [NV.ok]
   rw [<- lC, <- e1, lC, he]; rfl
 ·rw [zdr]
  by_cases h : ((2, [0, 0, 0, 0], 0, 0, 0, 0, 0, ()) : Nd) = (2, wd p, a, b, lo, hi, m, ())
  ·rw [hgood h]; exact Or.inl ⟨rfl, .bol, h.symm, rfl⟩
  ·exact hbad (fun v hv => by rw [hv]; cases v <;> simp [NV.node] at hv ⊢) h
 ·rw [zds]
  by_cases h : ((3, [0, 0, 0, 0], 0, 0, 0, 0, 0, ()) : Nd) = (3, wd p, a, b, lo, hi, m, ())
  ·rw [hgood h]; exact Or.inl ⟨rfl, .eol, h.symm, rfl⟩
  ·exact hbad (fun v hv => by rw [hv]; cases v <;> simp [NV.node] at hv ⊢) h
 ·rw [zdu]
  by_cases h : ((4, [0, 0, 0, 0], a, b, 0, 0, 0, ()) : Nd) = (4, wd p, a, b, lo, hi, m, ())
  ·rw [hgood h]; exact Or.inl ⟨rfl, .cat a b, h.symm, rfl⟩
  ·exact hbad (fun v hv => by rw [hv]; cases v <;> simp [NV.node] at hv ⊢; exact ⟨hv.2.1.symm, hv.2.2.1.symm⟩) h
 ·rw [zdv]
  by_cases h : ((5, [0, 0, 0, 0], a, b, 0, 0, 0, ()) : Nd) = (5, wd p, a, b, lo, hi, m, ())
  ·rw [hgood h]; exact Or.inl ⟨rfl, .alt a b, h.symm, rfl⟩
  ·exact hbad (fun v hv => by rw [hv]; cases v <;> simp [NV.node] at hv ⊢; exact ⟨hv.2.1.symm, hv.2.2.1.symm⟩) h
 ·rw [zdw]
  have hno : fB lo hi = false -> ∀ v : NV, (6, wd p, a, b, lo, hi, m, u) = v.node -> v.ok = false := by
   intro ht v hv
   have e1 := congrArg (fun x : Nd => x.2.2.2.2.1) hv
   have e2 := congrArg (fun x : Nd => x.2.2.2.2.2.1) hv
   have e0 := congrArg (fun x : Nd => x.1) hv
   cases v <;> simp [NV.node] at e0 e1 e2
   simp only [NV.ok]
   rw [<- e1, <- e2]; exact ht
  have heq : fB lo hi = true -> I8 (6, wd p, a, b, lo, hi, m, u) (br (Ty.beq ak (6, [0, 0, 0, 0], a, 0, lo, hi, 0, ()) (6, wd p, a, b, lo, hi, m, ())) (some true) (some false)) := by
   intro ht
   by_cases h : ((6, [0, 0, 0, 0], a, 0, lo, hi, 0, ()) : Nd) = (6, wd p, a, b, lo, hi, m, ())
   ·rw [hgood h]; exact Or.inl ⟨rfl, .times a lo hi, h.symm, ht⟩
   ·exact hbad (fun v hv => by rw [hv]; cases v <;> simp [NV.node] at hv ⊢; exact ⟨hv.2.1.symm, hv.2.2.2.1.symm, hv.2.2.2.2.1.symm⟩) h
  by_cases g1 : lo < 0
  ·rw [au (by simpa using g1)]; exact Or.inr ⟨rfl, hno (by simp [fB]; omega)⟩
  rw [aj (by simpa using g1)]
  by_cases g2 : lo > 255
  ·rw [au (by simpa using g2)]; exact Or.inr ⟨rfl, hno (by simp [fB]; omega)⟩
  rw [aj (by simpa using g2)]
  by_cases g3 : hi = -1
  ·rw [aj (by simp [g3])]; exact heq (by simp [fB]; omega)
  rw [au (by simpa using g3)]
  by_cases g4 : hi < lo
  ·rw [au (by simpa using g4)]; exact Or.inr ⟨rfl, hno (by simp [fB]; omega)⟩
  rw [aj (by simpa using g4)]
  by_cases g5 : hi < 1
  ·rw [au (by simpa using g5)]; exact Or.inr ⟨rfl, hno (by simp [fB]; omega)⟩
  rw [aj (by simpa using g5)]
  by_cases g6 : hi > 255
  ·rw [au (by simpa using g6)]; exact Or.inr ⟨rfl, hno (by simp [fB]; omega)⟩
  rw [aj (by simpa using g6)]
  exact heq (by simp [fB]; omega)
 ·rw [zdx]
  by_cases h : ((7, [0, 0, 0, 0], a, 0, 0, 0, m, ()) : Nd) = (7, wd p, a, b, lo, hi, m, ())
  ·rw [hgood h]
   simp only [Prod.mk.injEq, true_and, and_true] at h
   obtain ⟨h1, h2, h3, h4⟩ := h
   rw [<- h1, <- h2, <- h3, <- h4]
   refine ET (c := fun m' => .group a m') (fun _ => rfl) (fun _ => rfl) (fun v hv => ?_)
   have e1 := congrArg (fun x : Nd => x.2.2.2.2.2.2.1) hv
   have e0 := congrArg (fun x : Nd => x.1) hv
   cases v <;> simp [NV.node] at e0 e1
   exact ⟨_, e1, rfl⟩
  ·exact hbad (fun v hv => by rw [hv]; cases v <;> simp [NV.node] at hv ⊢; exact ⟨hv.2.1.symm, hv.2.2.2.2.2.symm⟩) h
 ·rw [zdy]
  by_cases h : ((8, [0, 0, 0, 0], 0, 0, 0, 0, m, ()) : Nd) = (8, wd p, a, b, lo, hi, m, ())
  ·rw [hgood h]
   simp only [Prod.mk.injEq, true_and, and_true] at h
   obtain ⟨h1, h2, h3, h4, h5⟩ := h
   rw [<- h1, <- h2, <- h3, <- h4, <- h5]
   refine ET (c := fun m' => .ref m') (fun _ => rfl) (fun _ => rfl) (fun v hv => ?_)
   have e1 := congrArg (fun x : Nd => x.2.2.2.2.2.2.1) hv
   have e0 := congrArg (fun x : Nd => x.1) hv
   cases v <;> simp [NV.node] at e0 e1
   exact ⟨_, e1, rfl⟩
  ·exact hbad (fun v hv => by rw [hv]; cases v <;> simp [NV.node] at hv ⊢; exact hv.2.2.2.2.2.symm) h
end Go.Dec
namespace Go.Dec
section
variable {l : List Nd}
theorem C9 {i j : Nat} {t : Pt} (h1 : l.take (i + 1) = l.take j ++ t.enc j) (hj : j <= l.length) : At l j t :=
 ⟨l.take j, l.drop (i + 1), by rw [<- h1, List.take_append_drop], by rw [List.length_take]; omega⟩
theorem zbk (hl : l.length < 1000000) : ∀ (t : Pt) (o m : Nat), At l o t -> t.sz <= m -> dL m (l, t.top o) = some (o : Int) := by
 intro t
 have start : ∀ {t : Pt} {o m : Nat}, dL (m + 1) (l, t.top o) = eO m (dL m) (l, t.top o) := rfl
 have leaf : ∀ t : Pt, t.sz = 1 -> t.kind ≠ 4 -> t.kind ≠ 5 -> t.kind ≠ 6 -> t.kind ≠ 7 -> ∀ (o m : Nat), At l o t -> t.sz <= m -> dL m (l, t.top o) = some (o : Int) := by
  intro t h1 h4 h5 h6 h7 o m h hm
  obtain ⟨m, rfl⟩ : ∃ k, m = k + 1 := ⟨m - 1, by omega⟩
  rw [start]
  unfold eO
  simp only
  have htop : t.top o = (o : Int) := by unfold Pt.top; omega
  rw [aj (by rw [htop]; simp), ah h.top.1, h.top.2, Pt.sW]
  rw [aj (by simpa using h4), aj (by simpa using h5), aj (by simpa using h6), aj (by simpa using h7), htop]
 induction t with
 | empty => exact leaf .empty rfl (by decide) (by decide) (by decide) (by decide)
 | bytes p => exact leaf (.bytes p) rfl (by simp [Pt.kind]) (by simp [Pt.kind]) (by simp [Pt.kind]) (by simp [Pt.kind])
 | bol => exact leaf .bol rfl (by decide) (by decide) (by decide) (by decide)
 | eol => exact leaf .eol rfl (by decide) (by decide) (by decide) (by decide)
 | ref k => exact leaf (.ref k) rfl (by simp [Pt.kind]) (by simp [Pt.kind]) (by simp [Pt.kind]) (by simp [Pt.kind])
 | cat a b iha ihb =>
  intro o m h hm
  obtain ⟨m, rfl⟩ : ∃ k, m = k + 1 := ⟨m - 1, by simp only [Pt.sz] at hm; omega⟩
  have hlen := h.len
  have pa := a.bT
  have pb := b.bT
  simp only [Pt.sz] at hm hlen
  rw [start]
  unfold eO
  simp only
  have htop : (Pt.cat a b).top o = ((o + a.sz + b.sz : Nat) : Int) := by unfold Pt.top; simp only [Pt.sz]; omega
  have hb1 : IntKind.wrap .i64 ((Pt.cat a b).top o - 1) = b.top (o + a.sz) := by rw [htop, aK (by omega) (by omega)]; unfold Pt.top; omega
  rw [aj (by rw [htop]; simp; omega), ah h.top.1, h.top.2, hb1]
  simp only [Pt.nv, NV.node]
  rw [au (by rfl), au (by rfl), ah h.top.1, aj (by simp), ihb (o + a.sz) m h.zn.2 (by omega)]
  simp only [aA]
  have ha1 : IntKind.wrap .i64 (((o + a.sz : Nat) : Int) - 1) = a.top o := by rw [aK (by omega) (by omega)]; rfl
  rw [aj (by simp; omega), ah h.top.1, ha1, aj (by simp), iha o m h.zn.1 (by omega)]
  rfl
 | alt a b iha ihb =>
  intro o m h hm
  obtain ⟨m, rfl⟩ : ∃ k, m = k + 1 := ⟨m - 1, by simp only [Pt.sz] at hm; omega⟩
  have hlen := h.len
  have pa := a.bT
  have pb := b.bT
  simp only [Pt.sz] at hm hlen
  rw [start]
  unfold eO
  simp only
  have htop : (Pt.alt a b).top o = ((o + a.sz + b.sz : Nat) : Int) := by unfold Pt.top; simp only [Pt.sz]; omega
  have hb1 : IntKind.wrap .i64 ((Pt.alt a b).top o - 1) = b.top (o + a.sz) := by rw [htop, aK (by omega) (by omega)]; unfold Pt.top; omega
  rw [aj (by rw [htop]; simp; omega), ah h.top.1, h.top.2, hb1]
  simp only [Pt.nv, NV.node]
  rw [aj (by rfl), au (by rfl), ah h.top.1, aj (by simp), ihb (o + a.sz) m h.alt1.2 (by omega)]
  simp only [aA]
  have ha1 : IntKind.wrap .i64 (((o + a.sz : Nat) : Int) - 1) = a.top o := by rw [aK (by omega) (by omega)]; rfl
  rw [aj (by simp; omega), ah h.top.1, ha1, aj (by simp), iha o m h.alt1.1 (by omega)]
  rfl
 | times a lo hi iha =>
  intro o m h hm
  obtain ⟨m, rfl⟩ : ∃ k, m = k + 1 := ⟨m - 1, by simp only [Pt.sz] at hm; omega⟩
  have hlen := h.len
  have pa := a.bT
  simp only [Pt.sz] at hm hlen
  rw [start]
  unfold eO
  simp only
  have htop : (Pt.times a lo hi).top o = ((o + a.sz : Nat) : Int) := by unfold Pt.top; simp only [Pt.sz]; omega
  have hb1 : IntKind.wrap .i64 ((Pt.times a lo hi).top o - 1) = a.top o := by rw [htop, aK (by omega) (by omega)]; rfl
  rw [aj (by rw [htop]; simp; omega), ah h.top.1, h.top.2, hb1]
  simp only [Pt.nv, NV.node]
  rw [aj (by rfl), aj (by rfl), au (by rfl), au (by rfl), ah h.top.1, aj (by simp), iha o m h.DW (by omega)]
  rfl
 | group a k iha =>
  intro o m h hm
  obtain ⟨m, rfl⟩ : ∃ k, m = k + 1 := ⟨m - 1, by simp only [Pt.sz] at hm; omega⟩
  have hlen := h.len
  have pa := a.bT
  simp only [Pt.sz] at hm hlen
  rw [start]
  unfold eO
  simp only
  have htop : (Pt.group a k).top o = ((o + a.sz : Nat) : Int) := by unfold Pt.top; simp only [Pt.sz]; omega
  have hb1 : IntKind.wrap .i64 ((Pt.group a k).top o - 1) = a.top o := by rw [htop, aK (by omega) (by omega)]; rfl
  rw [aj (by rw [htop]; simp; omega), ah h.top.1, h.top.2, hb1]
  simp only [Pt.nv, NV.node]
  rw [aj (by rfl), aj (by rfl), aj (by rfl), au (by rfl), ah h.top.1, aj (by simp), iha o m h.DX (by omega)]
  rfl
theorem At.take {o : Nat} {t : Pt} (h : At l o t) : l.take (o + t.sz) = l.take o ++ t.enc o := by
 obtain ⟨pre, post, rfl, hp⟩ := h
 subst hp
 have h1 : (pre ++ t.enc pre.length ++ post).take (pre.length + t.sz) = pre ++ t.enc pre.length := by
  rw [List.take_append_of_le_length (by rw [List.length_append, Pt.aZ]; exact Nat.le_refl _), List.take_of_length_le (by rw [List.length_append, Pt.aZ]; exact Nat.le_refl _)]
 rw [h1, List.append_assoc, List.take_left]
theorem Pm {m : Nat} (hm : 1 <= m) : dL m (l, -1) = some (-1) := by
 obtain ⟨m, rfl⟩ : ∃ k, m = k + 1 := ⟨m - 1, by omega⟩
 rfl
def Aj (l : List Nd) (i : Nat) (e : Option Int) : Prop := ∃ j : Int, e = some j ∧ (j = -1 ∨ ∃ (o : Nat) (t : Pt), j = (o : Int) ∧ o + t.sz = i + 1 ∧ At l o t ∧ bD t = true)
theorem zbl (hl : l.length < 1000000) (hall : ∀ (i : Nat) (x : Nd), l[i]? = some x -> ∃ v : NV, x = v.node ∧ v.ok = true) : ∀ (i m : Nat), i < l.length -> i + 2 <= m -> Aj l i (dL m (l, (i : Int))) := by
 intro i
 induction i using Nat.strongRecOn with
 | ind i ih =>
  intro m hi hm
  obtain ⟨m, rfl⟩ : ∃ k, m = k + 1 := ⟨m - 1, by omega⟩
  have hli : l[i]? = some l[i] := List.getElem?_eq_getElem hi
  obtain ⟨v, hv, hok⟩ := hall i l[i] hli
  have hget : ∀ d, aG d l (i : Int) = v.node := fun d => by rw [eT hi, hv]
  have start : dL (m + 1) (l, (i : Int)) = eO m (dL m) (l, (i : Int)) := rfl
  rw [start]
  unfold eO
  simp only
  rw [aj (by simp), ah (dM hi), hget]
  have hw1 : IntKind.wrap .i64 ((i : Int) - 1) = (i : Int) - 1 := aK (by omega) (by omega)
  have WR : l.take (i + 1) = l.take i ++ [v.node] := by rw [Cq hli, hv]
  have hno : Aj l i (some (-1)) := ⟨-1, rfl, Or.inl rfl⟩
  have leaf : ∀ t : Pt, t.sz = 1 -> t.enc i = [v.node] -> bD t = true -> Aj l i (some (i : Int)) := by
   intro t h1 h2 h3
   exact ⟨_, rfl, Or.inr ⟨i, t, rfl, by omega, C9 (i := i) (by rw [WR, h2]) (by omega), h3⟩⟩
  have prev : Aj l (i - 1) (dL m (l, (i : Int) - 1)) ∨ dL m (l, (i : Int) - 1) = some (-1) := by
   by_cases h0 : i = 0
   ·right; subst h0; exact Pm (by omega)
   ·left
    have := ih (i - 1) (by omega) m (by omega) (by omega)
    rw [show ((i - 1 : Nat) : Int) = (i : Int) - 1 by omega] at this
    exact this
  have zaq : dL m (l, (i : Int) - 1) = some (-1) ∨ ∃ (o : Nat) (t : Pt), dL m (l, (i : Int) - 1) = some (o : Int) ∧ o + t.sz = i ∧ At l o t ∧ bD t = true := by
   rcases prev with ⟨j, e1, e2⟩ | e
   ·rcases e2 with rfl | ⟨o, t, rfl, e4, e5, e6⟩
    ·exact Or.inl e1
    ·have := t.bT
     refine Or.inr ⟨o, t, e1, ?_, e5, e6⟩
     have h5 := e5.len
     by_cases h0 : i = 0
     ·subst h0; rw [show ((0 : Nat) : Int) - 1 = -1 from rfl, Pm (by omega)] at e1; simp at e1
     ·omega
   ·exact Or.inl e
  have one : ∀ (x : Int) (mk : Pt -> Pt), (∀ a, (mk a).sz = a.sz + 1) -> (∀ a o, a.top o = x -> (mk a).enc o = a.enc o ++ [v.node]) -> (∀ a, bD a = true -> bD (mk a) = true) ->
    Aj l i (br (x != (i : Int) - 1) (some (-1)) (ob (dL m (l, (i : Int) - 1)) fun y => some y)) := by
   intro x mk h1 h2 h3
   by_cases hx : x = (i : Int) - 1
   ·rw [aj (by simp [hx])]
    rcases zaq with e | ⟨o, a, e, e4, e5, e6⟩
    ·rw [e]; exact hno
    ·rw [e]
     refine ⟨_, rfl, Or.inr ⟨o, mk a, rfl, by rw [h1]; omega, C9 (i := i) ?_ (by have := e5.len; omega), h3 a e6⟩⟩
     have ht := e5.take
     rw [e4] at ht
     rw [WR, ht, h2 a o (by rw [hx]; unfold Pt.top; omega), List.append_assoc]
   ·rw [au (by simpa using hx)]
    exact hno
  have two : ∀ (x y : Int) (mk : Pt -> Pt -> Pt), (∀ a b, (mk a b).sz = a.sz + b.sz + 1) -> (∀ a b o, a.top o = x -> b.top (o + a.sz) = y -> (mk a b).enc o = a.enc o ++ b.enc (o + a.sz) ++ [v.node]) -> (∀ a b, bD a = true -> bD b = true -> bD (mk a b) = true) ->
    Aj l i (br (y != (i : Int) - 1) (some (-1)) (ob (dL m (l, (i : Int) - 1)) fun y5 => br (decide (y5 < 1)) (some (-1)) (chk (inB (i : Int) l.length) (br (x != IntKind.wrap .i64 (y5 - 1)) (some (-1)) (ob (dL m (l, IntKind.wrap .i64 (y5 - 1))) fun y9 => some y9))))) := by
   intro x y mk h1 h2 h3
   by_cases hy : y = (i : Int) - 1
   ·rw [aj (by simp [hy])]
    rcases zaq with e | ⟨o, b, e, e4, e5, e6⟩
    ·rw [e]; exact hno
    ·rw [e, aA]
     by_cases h0 : o = 0
     ·subst h0; exact hno
     ·have hw2 : IntKind.wrap .i64 ((o : Int) - 1) = ((o - 1 : Nat) : Int) := by have := e5.len; rw [aK (by omega) (by omega)]; omega
      have pb := b.bT
      have hl5 := e5.len
      rw [aj (by simp; omega), ah (dM hi), hw2]
      by_cases hx : x = ((o - 1 : Nat) : Int)
      ·rw [aj (by simp [hx])]
       obtain ⟨j, k1, k2⟩ := ih (o - 1) (by omega) m (by omega) (by omega)
       rw [k1]
       rcases k2 with rfl | ⟨o2, a, rfl, k3, k4, k5⟩
       ·exact hno
       ·have pa := a.bT
        have ho : o2 + a.sz = o := by omega
        refine ⟨_, rfl, Or.inr ⟨o2, mk a b, rfl, by rw [h1]; omega, C9 (i := i) ?_ (by omega), h3 a b k5 e6⟩⟩
        have ht := e5.take
        have ht2 := k4.take
        rw [e4] at ht
        rw [ho] at ht2
        rw [WR, ht, ht2, h2 a b o2 (by rw [hx]; unfold Pt.top; omega) (by rw [hy, ho]; unfold Pt.top; omega), ho]
        simp only [List.append_assoc]
      ·rw [au (by simpa using hx)]
       exact hno
   ·rw [au (by simpa using hy)]
    exact hno
  rw [hw1]
  cases v with
  | empty => exact leaf .empty rfl rfl rfl
  | bytes p => exact leaf (.bytes p) rfl rfl hok
  | bol => exact leaf .bol rfl rfl rfl
  | eol => exact leaf .eol rfl rfl rfl
  | ref k => exact leaf (.ref k) rfl rfl hok
  | cat x y =>
   simp only [NV.node]
   rw [au (by rfl), au (by rfl), ah (dM hi)]
   exact two x y .cat (fun _ _ => rfl) (fun a b o h1 h2 => by simp only [Pt.enc, h1, h2, NV.node]) (fun a b h1 h2 => by simp [bD, h1, h2])
  | alt x y =>
   simp only [NV.node]
   rw [aj (by rfl), au (by rfl), ah (dM hi)]
   exact two x y .alt (fun _ _ => rfl) (fun a b o h1 h2 => by simp only [Pt.enc, h1, h2, NV.node]) (fun a b h1 h2 => by simp [bD, h1, h2])
  | times x lo hi' =>
   simp only [NV.node]
   rw [aj (by rfl), aj (by rfl), au (by rfl), au (by rfl), ah (dM hi)]
   exact one x (fun a => .times a lo hi') (fun _ => rfl) (fun a o h1 => by simp only [Pt.enc, h1, NV.node]) (fun a h1 => by simp only [bD, h1, Bool.true_and]; exact hok)
  | group x k =>
   simp only [NV.node]
   rw [aj (by rfl), aj (by rfl), aj (by rfl), au (by rfl), ah (dM hi)]
   exact one x (fun a => .group a k) (fun _ => rfl) (fun a o h1 => by simp only [Pt.enc, h1, NV.node]) (fun a h1 => by simp only [bD, h1, Bool.true_and]; exact hok)
end
end Go.Dec
namespace Go.Dec
def dS (len : Nat) (t : Pt) : Bool := decide (len = 1) || fP t
def jC (len : Nat) (t : Pt) (w : W4) : Option (Bool × Int × List Bool × Bool × Unit) :=
 some ((aC t w).2.1 && (dw t && dS len t), ((aC t w).1 : Int), (aC t w).2.2.1, (aC t w).2.2.2, ())
theorem MV {l : List Nd} (hl : l.length < 1000000) : ∀ (t : Pt) (o m : Nat) (w : W4), At l o t -> bD t = true -> t.sz <= m -> w.1 + t.sz < 1000000 -> w.2.2.1.length = 10 ->
  eY m (l, t.top o, (w.2.1, ((w.1 : Int), (w.2.2.1, (w.2.2.2, ()))))) = jC l.length t w := by
 intro t
 have start : ∀ {t : Pt} {o m : Nat} {x : Bool × Int × List Bool × Bool × Unit}, eY (m + 1) (l, t.top o, x) = dn m (eY m) (l, t.top o, x) := rfl
 induction t with
 | empty =>
  intro o m w h hf hm hg he
  obtain ⟨m, rfl⟩ : ∃ k, m = k + 1 := ⟨m - 1, by simp only [Pt.sz] at hm; omega⟩
  rw [start]; unfold dn; simp only
  rw [ah h.top.1, h.top.2]
  simp only [Pt.nv, NV.node]
  rw [aj (by rfl), aj (by rfl), aj (by rfl), aj (by rfl), aj (by rfl), au (by rfl)]
  unfold jC dS
  by_cases h1 : l.length = 1
  ·rw [aj (by simp [h1]), decide_eq_true h1]; simp [aC, dw]
  ·rw [au (by simp; omega), decide_eq_false h1]; simp [aC, fP]
 | bytes p =>
  intro o m w h hf hm hg he
  obtain ⟨m, rfl⟩ : ∃ k, m = k + 1 := ⟨m - 1, by simp only [Pt.sz] at hm; omega⟩
  rw [start]; unfold dn; simp only
  rw [ah h.top.1, h.top.2]
  simp only [Pt.nv, NV.node]
  rw [aj (by rfl), aj (by rfl), aj (by rfl), aj (by rfl), aj (by rfl), aj (by rfl)]
  simp [jC, dS, aC, dw, fP]
 | bol =>
  intro o m w h hf hm hg he
  obtain ⟨m, rfl⟩ : ∃ k, m = k + 1 := ⟨m - 1, by simp only [Pt.sz] at hm; omega⟩
  rw [start]; unfold dn; simp only
  rw [ah h.top.1, h.top.2]
  simp only [Pt.nv, NV.node]
  rw [aj (by rfl), aj (by rfl), aj (by rfl), aj (by rfl), aj (by rfl), aj (by rfl)]
  simp [jC, dS, aC, dw, fP]
 | eol =>
  intro o m w h hf hm hg he
  obtain ⟨m, rfl⟩ : ∃ k, m = k + 1 := ⟨m - 1, by simp only [Pt.sz] at hm; omega⟩
  rw [start]; unfold dn; simp only
  rw [ah h.top.1, h.top.2]
  simp only [Pt.nv, NV.node]
  rw [aj (by rfl), aj (by rfl), aj (by rfl), aj (by rfl), aj (by rfl), aj (by rfl)]
  simp [jC, dS, aC, dw, fP]
 | ref k =>
  intro o m w h hf hm hg he
  obtain ⟨m, rfl⟩ : ∃ k, m = k + 1 := ⟨m - 1, by simp only [Pt.sz] at hm; omega⟩
  simp only [bD, Bool.and_eq_true, decide_eq_true_eq] at hf
  rw [start]; unfold dn; simp only
  rw [ah h.top.1, h.top.2]
  simp only [Pt.nv, NV.node]
  rw [aj (by rfl), aj (by rfl), aj (by rfl), aj (by rfl), au (by rfl), ah (dM (i := k) (n := 10) (by omega)), ah (by exact decide_eq_true (show k < 10 by omega)), Int.toNat_natCast, show Ty.dflt .bool = false from rfl]
  simp only [jC, dS, aC, dw, fP, Bool.or_true, Bool.and_true]
  cases w.2.2.1.getD k false
  ·simp
  ·simp
 | cat a b iha ihb =>
  intro o m w h hf hm hg he
  obtain ⟨m, rfl⟩ : ∃ k, m = k + 1 := ⟨m - 1, by simp only [Pt.sz] at hm; omega⟩
  simp only [bD, Bool.and_eq_true] at hf
  simp only [Pt.sz] at hm hg
  have hga := uz a w
  have ha := h.zn.1
  have hb := h.zn.2
  have key : ∀ c : Bool, (ob (eY m (l, a.top o, (w.2.1 && c, ((w.1 : Int), (w.2.2.1, (w.2.2.2, ())))))) fun y => ob (eY m (l, b.top (o + a.sz), y)) fun y2 => some y2) =
    some ((aC b (aC a w)).2.1 && (c && (dw a && dS l.length a && (dw b && dS l.length b))), ((aC b (aC a w)).1 : Int), (aC b (aC a w)).2.2.1, (aC b (aC a w)).2.2.2, ()) := by
   intro c
   have h1 := iha o m (w.1, w.2.1 && c, w.2.2.1, w.2.2.2) ha hf.1 (by omega) (by simp only; omega) he
   simp only at h1
   rw [h1]
   unfold jC
   simp only [aA]
   rw [kF a]
   have h2 := ihb (o + a.sz) m ((aC a w).1, (aC a w).2.1 && (c && (dw a && dS l.length a)), (aC a w).2.2.1, (aC a w).2.2.2) hb hf.2 (by omega) (by simp only; omega) (by simp only; rw [kE]; exact he)
   simp only at h2
   rw [show ((aC a (w.1, w.2.1, w.2.2.1, w.2.2.2)).2.1 && c && (dw a && dS l.length a)) = ((aC a w).2.1 && (c && (dw a && dS l.length a))) from Bool.and_assoc _ _ _]
   rw [show (w.1, w.2.1, w.2.2.1, w.2.2.2) = w from rfl]
   rw [h2]
   unfold jC
   simp only [aA]
   rw [kF b]
   rw [show ((aC a w).1, (aC a w).2.1, (aC a w).2.2.1, (aC a w).2.2.2) = aC a w from rfl]
   simp only [Bool.and_assoc]
  rw [start]; unfold dn; simp only
  rw [ah h.top.1, h.top.2]
  simp only [Pt.nv, NV.node]
  rw [au (by rfl), ah ha.top.1, ha.top.2, Pt.sW, ah hb.top.1, hb.top.2, Pt.sW]
  have hall : jC l.length (.cat a b) w = some ((aC b (aC a w)).2.1 && ((decide (a.kind ≠ 4) && decide (a.kind ≠ 5) && decide (b.kind ≠ 5)) && (dw a && dS l.length a && (dw b && dS l.length b))), ((aC b (aC a w)).1 : Int), (aC b (aC a w)).2.2.1, (aC b (aC a w)).2.2.2, ()) := by
   unfold jC dS
   simp only [aC, dw, fP]
   congr 2
   cases (aC b (aC a w)).2.1 <;> cases dw a <;> cases dw b <;> cases fP a <;> cases fP b <;> cases decide (l.length = 1) <;> simp
  rw [hall]
  have kf := key false
  have kt := key true
  rw [Bool.and_false] at kf
  rw [Bool.and_true] at kt
  by_cases h4 : a.kind = 4
  ·rw [au (by simp [h4]), kf]; simp [h4]
  ·rw [aj (by simpa using h4), ah ha.top.1]
   by_cases h5 : a.kind = 5
   ·rw [au (by simp [h5]), kf]; simp [h5]
   ·rw [aj (by simpa using h5)]
    by_cases h6 : b.kind = 5
    ·rw [au (by simp [h6]), kf]; simp [h6]
    ·rw [aj (by simpa using h6), kt]; simp [h4, h5, h6]
 | alt a b iha ihb =>
  intro o m w h hf hm hg he
  obtain ⟨m, rfl⟩ : ∃ k, m = k + 1 := ⟨m - 1, by simp only [Pt.sz] at hm; omega⟩
  simp only [bD, Bool.and_eq_true] at hf
  simp only [Pt.sz] at hm hg
  have hga := uz a w
  have ha := h.alt1.1
  have hb := h.alt1.2
  have key : ∀ c : Bool, (ob (eY m (l, a.top o, (w.2.1 && c, ((w.1 : Int), (w.2.2.1, (w.2.2.2, ())))))) fun y => ob (eY m (l, b.top (o + a.sz), y)) fun y2 => some y2) =
    some ((aC b (aC a w)).2.1 && (c && (dw a && dS l.length a && (dw b && dS l.length b))), ((aC b (aC a w)).1 : Int), (aC b (aC a w)).2.2.1, (aC b (aC a w)).2.2.2, ()) := by
   intro c
   have h1 := iha o m (w.1, w.2.1 && c, w.2.2.1, w.2.2.2) ha hf.1 (by omega) (by simp only; omega) he
   simp only at h1
   rw [h1]
   unfold jC
   simp only [aA]
   rw [kF a]
   have h2 := ihb (o + a.sz) m ((aC a w).1, (aC a w).2.1 && (c && (dw a && dS l.length a)), (aC a w).2.2.1, (aC a w).2.2.2) hb hf.2 (by omega) (by simp only; omega) (by simp only; rw [kE]; exact he)
   simp only at h2
   rw [show ((aC a (w.1, w.2.1, w.2.2.1, w.2.2.2)).2.1 && c && (dw a && dS l.length a)) = ((aC a w).2.1 && (c && (dw a && dS l.length a))) from Bool.and_assoc _ _ _]
   rw [show (w.1, w.2.1, w.2.2.1, w.2.2.2) = w from rfl]
   rw [h2]
   unfold jC
   simp only [aA]
   rw [kF b]
   rw [show ((aC a w).1, (aC a w).2.1, (aC a w).2.2.1, (aC a w).2.2.2) = aC a w from rfl]
   simp only [Bool.and_assoc]
  rw [start]; unfold dn; simp only
  rw [ah h.top.1, h.top.2]
  simp only [Pt.nv, NV.node]
  rw [aj (by rfl), au (by rfl), ah ha.top.1, ha.top.2, Pt.sW]
  have hall : jC l.length (.alt a b) w = some ((aC b (aC a w)).2.1 && (decide (a.kind ≠ 5) && (dw a && dS l.length a && (dw b && dS l.length b))), ((aC b (aC a w)).1 : Int), (aC b (aC a w)).2.2.1, (aC b (aC a w)).2.2.2, ()) := by
   unfold jC dS
   simp only [aC, dw, fP]
   congr 2
   cases (aC b (aC a w)).2.1 <;> cases dw a <;> cases dw b <;> cases fP a <;> cases fP b <;> cases decide (l.length = 1) <;> simp
  rw [hall]
  have kf := key false
  have kt := key true
  rw [Bool.and_false] at kf
  rw [Bool.and_true] at kt
  by_cases h5 : a.kind = 5
  ·rw [au (by simp [h5]), kf]; simp [h5]
  ·rw [aj (by simpa using h5), kt]; simp [h5]
 | times a lo hi iha =>
  intro o m w h hf hm hg he
  obtain ⟨m, rfl⟩ : ∃ k, m = k + 1 := ⟨m - 1, by simp only [Pt.sz] at hm; omega⟩
  simp only [bD, Bool.and_eq_true] at hf
  simp only [Pt.sz] at hm hg
  have ha := h.DW
  have key : ∀ c : Bool, (ob (eY m (l, a.top o, (w.2.1 && c, ((w.1 : Int), (w.2.2.1, (w.2.2.2, ())))))) fun y => some y) =
    some ((aC a w).2.1 && (c && (dw a && dS l.length a)), ((aC a w).1 : Int), (aC a w).2.2.1, (aC a w).2.2.2, ()) := by
   intro c
   have h1 := iha o m (w.1, w.2.1 && c, w.2.2.1, w.2.2.2) ha hf.1 (by omega) (by simp only; omega) he
   simp only at h1
   rw [h1]
   unfold jC
   simp only [aA]
   rw [kF a]
   simp only [Bool.and_assoc]
  rw [start]; unfold dn; simp only
  rw [ah h.top.1, h.top.2]
  simp only [Pt.nv, NV.node]
  rw [aj (by rfl), aj (by rfl), au (by rfl), ah ha.top.1, ha.top.2, Pt.sW]
  have hall : jC l.length (.times a lo hi) w = some ((aC a w).2.1 && ((decide (a.kind = 1) || decide (a.kind = 7) || decide (a.kind = 8)) && (dw a && dS l.length a)), ((aC a w).1 : Int), (aC a w).2.2.1, (aC a w).2.2.2, ()) := by
   unfold jC dS
   simp only [aC, dw, fP]
   congr 2
   cases (aC a w).2.1 <;> cases dw a <;> cases fP a <;> cases decide (l.length = 1) <;> simp
  rw [hall]
  have kf := key false
  have kt := key true
  rw [Bool.and_false] at kf
  rw [Bool.and_true] at kt
  by_cases h1 : a.kind = 1
  ·rw [aj (by simp [h1]), kt]; simp [h1]
  ·rw [au (by simpa using h1), ah ha.top.1]
   by_cases h7 : a.kind = 7
   ·rw [aj (by simp [h7]), kt]; simp [h7]
   ·rw [au (by simpa using h7), ah ha.top.1]
    by_cases h8 : a.kind = 8
    ·rw [aj (by simp [h8]), kt]; simp [h8]
    ·rw [au (by simpa using h8), kf]; simp [h1, h7, h8]
 | group a k iha =>
  intro o m w h hf hm hg he
  obtain ⟨m, rfl⟩ : ∃ k, m = k + 1 := ⟨m - 1, by simp only [Pt.sz] at hm; omega⟩
  simp only [bD, Bool.and_eq_true, decide_eq_true_eq] at hf
  simp only [Pt.sz] at hm hg
  have ha := h.DX
  rw [start]; unfold dn; simp only
  rw [ah h.top.1, h.top.2]
  simp only [Pt.nv, NV.node]
  rw [aj (by rfl), aj (by rfl), aj (by rfl), au (by rfl), aK (by omega) (by omega), show (w.1 : Int) + 1 = ((w.1 + 1 : Nat) : Int) from rfl]
  have hI := iha o m (w.1 + 1, w.2.1 && decide (k = w.1 + 1), w.2.2.1, w.2.2.2) ha hf.1 (by omega) (by simp only; omega) he
  simp only at hI
  have hlen := kE a (w.1 + 1, w.2.1 && decide (k = w.1 + 1), w.2.2.1, w.2.2.2)
  by_cases hk : k = w.1 + 1
  ·rw [decide_eq_true hk, Bool.and_true] at hI hlen
   rw [aj (by simp; omega), hI]
   unfold jC
   simp only [aA]
   rw [ah (dM (i := k) (n := 10) (by omega)), ah (by exact decide_eq_true (show k < 10 by omega))]
   simp only [aC, decide_eq_true hk, Bool.and_true, Int.toNat_natCast, dw, dS, fP]
  ·rw [decide_eq_false hk, Bool.and_false] at hI hlen
   rw [au (by simp; omega), hI]
   unfold jC
   simp only [aA]
   rw [ah (dM (i := k) (n := 10) (by omega)), ah (by exact decide_eq_true (show k < 10 by omega))]
   simp only [aC, decide_eq_false hk, Bool.and_false, Int.toNat_natCast, dw, dS, fP]
theorem Ir {n : Nat} {l : List Nd} (hn : 200 <= n) (hw : ∀ nd ∈ l, BA nd) :
    (∃ t, ou t ∧ l = t.enc 0 ∧ o8 n l = some true) ∨ ((∀ t, ou t -> l ≠ t.enc 0) ∧ o8 n l = some false) := by
  have hsz : ∀ t : Pt, l = t.enc 0 -> l.length = t.sz := fun t h => by rw [h, Pt.aZ]
  unfold o8 zU
  simp only
  by_cases h0 : l.length = 0
  · rw [au (by rw [h0]; rfl)]
    exact Or.inr ⟨fun t _ h => by have := hsz t h; have := t.bT; omega, rfl⟩
  rw [aj (by simp; omega)]
  by_cases h1 : l.length > 120
  · rw [au (by simp; omega)]
    exact Or.inr ⟨fun t ht h => by have := hsz t h; have := ht.1; omega, rfl⟩
  rw [aj (by simp; omega)]
  have hzero : ([false, false, false, false, false, false, false, false, false, false] : List Bool) = gN := rfl
  rw [hzero]
  rcases ER l with ⟨vs, hv1, hv2⟩ | ⟨j, x, hj, hx⟩
  ·
    have hvn : ∀ (i : Nat) (x : Nd), l[i]? = some x -> ∃ v : NV, x = v.node ∧ v.ok = true := by
      intro i x hi
      rw [<- hv1, List.getElem?_map] at hi
      cases hvi : vs[i]? with
      | none => rw [hvi] at hi; simp at hi
      | some v => rw [hvi] at hi; simp at hi; exact ⟨v, hi.symm, hv2 v (List.mem_of_getElem? hvi)⟩
    have hend : ∀ g, dX n g (l, (l.length : Int), false, 0, gN, false, ()) = dX n (fun _ => none) (l, (l.length : Int), false, 0, gN, false, ()) := by
      intro g
      unfold dX
      simp only
      rw [aj (by simp), aj (by simp)]
    have hloop : fix (dX n) n (l, 0, false, 0, gN, false, ()) = dX n (fun _ => none) (l, (l.length : Int), false, 0, gN, false, ()) := by
      refine rO (fun i => (l, (i : Int), false, 0, gN, false, ())) (N := l.length) ?_ hend l.length 0 n (by omega) (by omega)
      intro i hi g
      unfold dX
      simp only
      have hli : l[i]? = some l[i] := List.getElem?_eq_getElem hi
      have hok : bC n l[i] = some true := by
        rcases Iq (n := n) (hw _ (List.mem_of_getElem? hli)) with ⟨h, _⟩ | ⟨_, h⟩
        · exact h
        · obtain ⟨v, h2, h3⟩ := hvn i _ hli
          rw [h v h2] at h3; simp at h3
      rw [au (by simp; omega), ah (dM hi), eT hi, hok]
      simp only [aA, Bool.not_true, aM]
      rw [aK (by omega) (by omega)]; rfl
    rw [hloop]
    unfold dX
    simp only
    rw [aj (by simp), aK (by omega) (by omega)]
    obtain ⟨j, hj1, hj2⟩ := zbl (l := l) (by omega) hvn (l.length - 1) n (by omega) (by omega)
    rw [show ((l.length - 1 : Nat) : Int) = (l.length : Int) - 1 by omega] at hj1
    rw [hj1, aA]
    have zcQ : ∀ t : Pt, l = t.enc 0 -> j = 0 := by
      intro t ht
      have hA : At l 0 t := by have := At.self t; rw [<- ht] at this; exact this
      have := zbk (l := l) (by omega) t 0 n hA (by have := hsz t ht; omega)
      have e : t.top 0 = (l.length : Int) - 1 := by unfold Pt.top; rw [hsz t ht]; omega
      rw [e, hj1] at this
      simpa using this
    by_cases hj0 : j = 0
    · subst hj0
      rw [aj (by rfl)]
      rcases hj2 with hbad | ⟨o, t, ho, hs1, hA, hF⟩
      · omega
      · have ho : o = 0 := by omega
        subst ho
        have hlt : l = t.enc 0 := by
          have := hA.take
          rw [Nat.zero_add, List.take_of_length_le (by omega)] at this
          simpa using this
        have hsz2 := hsz t hlt
        have ZE : (l.length : Int) - 1 = t.top 0 := by unfold Pt.top; omega
        rw [ZE]
        have hT := MV (l := l) (by omega) t 0 n w0 hA hF (by omega) (by simp only [w0]; omega) rfl
        have hT2 : eY n (l, t.top 0, (true, (0, (gN, (false, ()))))) = jC l.length t w0 := hT
        rw [hzero, hT2]
        unfold jC
        simp only [aA]
        have hgood : ((aC t w0).2.1 && (dw t && dS l.length t)) = true <-> ou t := by
          unfold ou wM dS
          simp only [Bool.and_eq_true, Bool.or_eq_true, decide_eq_true_eq]
          constructor
          · rintro ⟨a1, a2, a3⟩
            exact ⟨by omega, ⟨hF, a2, fun hh => by rcases a3 with a3 | a3; omega; exact a3⟩, a1⟩
          · rintro ⟨_, ⟨_, a2, a3⟩, a1⟩
            refine ⟨a1, a2, ?_⟩
            by_cases h1 : l.length = 1
            · exact Or.inl h1
            · exact Or.inr (a3 (by have := t.bT; omega))
        cases hg : ((aC t w0).2.1 && (dw t && dS l.length t))
        · refine Or.inr ⟨fun u hu h => ?_, rfl⟩
          have hB : At l 0 u := by have := At.self u; rw [<- h] at this; exact this
          have hlu := hsz u h
          have hU := MV (l := l) (by omega) u 0 n w0 hB hu.2.1.1 (by omega) (by simp only [w0]; omega) rfl
          rw [show u.top 0 = t.top 0 by unfold Pt.top; omega, hT] at hU
          unfold jC at hU
          simp only [Option.some.injEq, Prod.mk.injEq] at hU
          rw [hg] at hU
          have h2 : ((aC u w0).2.1 && (dw u && dS l.length u)) = true := by
            unfold dS
            simp only [Bool.and_eq_true, Bool.or_eq_true, decide_eq_true_eq]
            refine ⟨hu.2.2, hu.2.1.2.1, ?_⟩
            by_cases h1 : l.length = 1
            · exact Or.inl h1
            · exact Or.inr (hu.2.1.2.2 (by have := u.bT; omega))
          rw [h2] at hU
          exact absurd hU.1 (by simp)
        · exact Or.inl ⟨t, hgood.1 hg, hlt, rfl⟩
    · rw [au (by simpa using hj0)]
      exact Or.inr ⟨fun t _ h => hj0 (zcQ t h), rfl⟩
  ·
    have hjl : j < l.length := (List.getElem?_eq_some_iff.1 hj).1
    have hnot : ∀ t, ou t -> l ≠ t.enc 0 := by
      intro t ht h
      have h2 := sZ t 0
      rw [<- h] at h2
      rw [<- h2, List.getElem?_map] at hj
      cases hvi : (t.nvs 0)[j]? with
      | none => rw [hvi] at hj; simp at hj
      | some v =>
        rw [hvi] at hj; simp at hj
        have h3 := hx v hj.symm
        rw [yU t 0 ht.2.1.1 v (List.mem_of_getElem? hvi)] at h3
        simp at h3
    refine Or.inr ⟨hnot, ?_⟩
    have key : ∀ k i m, i + k = j -> k < m -> fix (dX n) m (l, (i : Int), false, 0, gN, false, ()) = some (false, (0, (gN, (false, ())))) := by
      intro k
      induction k with
      | zero =>
        intro i m hi hm
        have hi : i = j := by omega
        subst hi
        rw [aX hm, dX]
        simp only
        have hok : bC n x = some false := by
          rcases Iq (n := n) (hw _ (List.mem_of_getElem? hj)) with ⟨_, v, h2, h3⟩ | ⟨h, _⟩
          · rw [hx v h2] at h3; simp at h3
          · exact h
        have hg : aG (Ty.dflt ak) l (i : Int) = x := by
          rw [eT hjl]; rw [List.getElem?_eq_getElem hjl] at hj; exact Option.some.inj hj
        rw [au (by simp; omega), ah (dM hjl), hg, hok]
        rfl
      | succ k ih =>
        intro i m hi hm
        have hil : i < l.length := by omega
        have hli : l[i]? = some l[i] := List.getElem?_eq_getElem hil
        rw [aX (by omega), dX]
        simp only
        rw [au (by simp; omega), ah (dM hil), eT hil]
        rcases Iq (n := n) (hw _ (List.mem_of_getElem? hli)) with ⟨h, _⟩ | ⟨h, _⟩
        · rw [h]
          simp only [aA, Bool.not_true, aM]
          rw [aK (by omega) (by omega)]
          exact ih (i + 1) (m - 1) (by omega) (by omega)
        · rw [h]; rfl
    have := key j 0 n (by omega) (by omega)
    rw [show ((0 : Nat) : Int) = 0 from rfl] at this
    rw [this]; rfl
end Go.Dec
namespace Go.Dec
def iQ : List UInt8 := [93, 91, 92, 94, 45, 10]
def l5 : List UInt8 := [46, 91, 92, 42, 94, 36]
def I9 (c : UInt8) : List UInt8 := bif c == 10 then [92, 110] else bif l5.contains c then [92, c] else [c]
def iA : List UInt8 -> List (List UInt8)
 | [] => []
 | c :: r => match iA r with
  | (d :: x) :: rest => bif d == c + 1 then (c :: d :: x) :: rest else [c] :: (d :: x) :: rest
  | rest => [c] :: rest
def oW (r : List UInt8) : List UInt8 := bif decide (r.length > 2) then r.take 1 ++ [45] ++ r.drop (r.length - 1) else r
theorem Da (c : UInt8) (r : List UInt8) : ∃ x rest, iA (c :: r) = (c :: x) :: rest := by
 unfold iA
 split
 ·rename_i d x rest h
  cases d == c + 1
  ·exact ⟨_, _, rfl⟩
  ·exact ⟨_, _, rfl⟩
 ·exact ⟨_, _, rfl⟩
def Qz (out : List (List UInt8)) (b : Bool) (c : UInt8) : List (List UInt8) :=
 bif b then out.set (out.length - 1) (out.getD (out.length - 1) [] ++ [c]) else out ++ [[c]]
theorem MW : ∀ (s : List UInt8) (l c : UInt8), iA (s ++ [l, c]) = Qz (iA (s ++ [l])) (c == l + 1) c
 | [], l, c => by
  simp only [List.nil_append, iA, Qz]
  cases c == l + 1 <;> rfl
 | a :: s, l, c => by
  have ih := MW s l c
  simp only [List.cons_append] at ih ⊢
  obtain ⟨h, t, hs⟩ : ∃ h t, s ++ [l] = h :: t := by cases s with
   | nil => exact ⟨_, _, rfl⟩
   | cons h t => exact ⟨_, _, rfl⟩
  have hs2 : s ++ [l, c] = h :: (t ++ [c]) := by rw [show [l, c] = [l] ++ [c] from rfl, <- List.append_assoc, hs]; rfl
  obtain ⟨x, rest, e1⟩ := Da h t
  rw [hs2, hs] at ih ⊢
  rw [e1] at ih
  have hcc : ∀ r, iA (a :: r) = (match iA r with
    | (d :: x) :: rest => bif d == a + 1 then (a :: d :: x) :: rest else [a] :: (d :: x) :: rest
    | rest => [a] :: rest) := fun _ => rfl
  rw [hcc, hcc, e1, ih]
  unfold Qz
  cases hb : c == l + 1
  ·simp only [cond_false, List.cons_append]
   cases h == a + 1 <;> simp
  ·simp only [cond_true]
   cases rest with
   | nil =>
    simp only [List.length_cons, List.length_nil, Nat.zero_add, Nat.sub_self, List.set_cons_zero, List.getD_cons_zero, List.cons_append]
    cases h == a + 1 <;> simp
   | cons r1 rest =>
    simp only [List.length_cons, Nat.add_sub_cancel, List.set_cons_succ, List.getD_cons_succ]
    cases h == a + 1 <;> simp
section
variable {n : Nat}
theorem Pn {s : List UInt8} : ∀ {s : List UInt8}, (iA s).length <= s.length := by
 intro s
 induction s with
 | nil => exact Nat.le_refl _
 | cons c r ih =>
  unfold iA
  split
  ·rename_i d x rest h
   rw [h] at ih
   simp only [List.length_cons] at ih ⊢
   cases d == c + 1 <;> simp <;> omega
  ·simp only [List.length_cons]; omega
theorem Aa : ∀ s : List UInt8, (iA s).flatten = s
 | [] => rfl
 | c :: r => by
  have ih := Aa r
  unfold iA
  split
  ·rename_i d x rest h
   rw [h] at ih
   simp only [List.flatten_cons, List.cons_append] at ih
   cases d == c + 1
   ·simp [<- ih]
   ·simp [<- ih]
  ·simp only [List.flatten_cons, List.singleton_append]; rw [ih]
theorem X9 {s r : List UInt8} (h : r ∈ iA s) : r.length <= s.length := by
 have h2 := Aa s
 have : ∀ (l : List (List UInt8)), r ∈ l -> r.length <= l.flatten.length := by
  intro l
  induction l with
  | nil => intro h; simp at h
  | cons a l ih =>
   intro h
   simp only [List.flatten_cons, List.length_append]
   rcases List.mem_cons.1 h with rfl | h
   ·omega
   ·have := ih h; omega
 have := this _ h
 rw [h2] at this; exact this
theorem zbm {s : List UInt8} (hs : s.length < n) (hs2 : s.length < 100000) (hasc : ∀ i, i + 1 < s.length -> (s.getD i 0).toNat + 1 < 256) : AB n s = some (iA s) := by
 unfold AB
 simp only
 have hlen : ∀ r : List UInt8, (iA r).length <= r.length := fun r => Pn (s := [])
 have key : ∀ k i m, i + k = s.length -> k < m -> fix (sD n) m (s, (s.length : Int), (i : Int), iA (s.take i), ()) = some (iA s) := by
  intro k
  induction k with
  | zero =>
   intro i m hi hm
   rw [aX hm, sD]
   simp only
   rw [aj (by simp; omega), List.take_of_length_le (by omega)]
  | succ k ih =>
   intro i m hi hm
   have hil : i < s.length := by omega
   have hit : s.take (i + 1) = s.take i ++ [s[i]] := by rw [List.take_add_one, List.getElem?_eq_getElem hil]; rfl
   have hi1 : IntKind.wrap .i64 ((i : Int) + 1) = ((i + 1 : Nat) : Int) := by rw [aK (by omega) (by omega)]; rfl
   have hcut : (s.take (i + 1)).drop i = [s[i]] := by
    rw [hit, List.drop_append_of_le_length (by rw [List.length_take]; omega), List.drop_of_length_le (by rw [List.length_take]; omega)]; rfl
   have hrl := hlen (s.take i)
   have htl : (s.take i).length = i := by rw [List.length_take]; omega
   rw [htl] at hrl
   have ih := ih (i + 1) (m - 1) (by omega) (by omega)
   rw [hit] at ih
   rw [aX (by omega), sD]
   simp only
   rw [au (by simp; omega), hi1]
   cases i with
   | zero =>
    simp only [List.take_zero, iA, List.nil_append] at ih ⊢
    rw [aj (by rfl), ah (by simp; omega), Int.toNat_natCast, Int.toNat_natCast, hcut, ah (by simp [room])]
    exact ih
   | succ j =>
    have hjl : j < s.length := by omega
    have hjt : s.take (j + 1) = s.take j ++ [s[j]] := by rw [List.take_add_one, List.getElem?_eq_getElem hjl]; rfl
    rw [hjt] at ih hrl ⊢
    rw [List.append_assoc, List.singleton_append, MW] at ih
    obtain ⟨x, rest, e1⟩ : ∃ x rest, iA (s.take j ++ [s[j]]) = x :: rest := by
     obtain ⟨a, b, hh⟩ := List.exists_cons_of_ne_nil (show s.take j ++ [s[j]] ≠ [] from fun h => by have := congrArg List.length h; rw [List.length_append, List.length_cons] at this; simp only [List.length_nil] at this; omega)
     rw [hh]
     obtain ⟨x, rest, h⟩ := Da a b
     exact ⟨_, _, h⟩
    generalize hR : iA (s.take j ++ [s[j]]) = R at *
    have hRp : 1 <= R.length := by rw [e1]; simp
    have hv7 : IntKind.wrap .i64 ((R.length : Int) - 1) = ((R.length - 1 : Nat) : Int) := by rw [aK (by omega) (by omega)]; omega
    have hj1 : IntKind.wrap .i64 (((j + 1 : Nat) : Int) - 1) = (j : Int) := by rw [aK (by omega) (by omega)]; omega
    have hb := hasc j (by omega)
    rw [List.getD_eq_getElem?_getD, List.getElem?_eq_getElem hjl] at hb
    simp only [Option.getD_some] at hb
    have hw : IntKind.wrap .u8 ((s[j].toNat : Int) + 1) = ((s[j].toNat + 1 : Nat) : Int) := by rw [IntWalk.u8_in _ (by omega)]; rfl
    rw [hv7, au (by simp), ah (dM hil), eT hil, hj1, ah (dM hjl), eT hjl, hw]
    have he : ((s[j + 1].toNat : Int) == ((s[j].toNat + 1 : Nat) : Int)) = (s[j + 1] == s[j] + 1) := by
     rw [Bool.eq_iff_iff, beq_iff_eq, beq_iff_eq, <- UInt8.toNat_inj, UInt8.toNat_add]
     have : (1 : UInt8).toNat = 1 := rfl
     rw [this, Nat.mod_eq_of_lt hb]; omega
    rw [he]
    unfold Qz at ih
    cases hc : s[j + 1] == s[j] + 1
    ·rw [hc] at ih
     simp only [cond_false] at ih
     rw [aM, ah (by simp; omega), Int.toNat_natCast, Int.toNat_natCast, hcut, ah (by simp [room]; omega)]
     exact ih
    ·rw [hc] at ih
     simp only [cond_true] at ih
     rw [aR, ah (by rw [dM (by omega)]; simp), Int.toNat_natCast, Nat.zero_add, ah (by simp; omega), show Ty.dflt .str = ([] : List UInt8) from rfl, ah (by simp; omega), Int.toNat_natCast, Int.toNat_natCast, hcut]
     have hRl : (R.getD (R.length - 1) []).length <= s.length := by
      rw [List.getD_eq_getElem?_getD, List.getElem?_eq_getElem (by omega)]
      simp only [Option.getD_some]
      have := X9 (s := s.take j ++ [s[j]]) (r := R[R.length - 1]) (by rw [hR]; exact List.getElem_mem _)
      rw [<- hjt, htl] at this; omega
     rw [ah (by exact decide_eq_true (by simp only [av, List.length_cons, List.length_nil]; omega)), ah (by rw [dM (by omega)]; simp), ah (by simp; omega)]
     exact ih
 exact key s.length 0 n (by omega) (by omega)
end
def qb (q : Nat -> Bool) : Nat -> Nat -> Nat
 | 0, k => k
 | f + 1, k => bif decide (k + 1 < 256) && q (k + 1) then qb q f (k + 1) else k
def gX (q : Nat -> Bool) : Nat -> Nat -> List UInt8
 | 0, _ => []
 | f + 1, i => if i < 256 then (bif q i then (bif decide (i + 2 <= qb q 256 i) then [UInt8.ofNat i, 45, UInt8.ofNat (qb q 256 i)] ++ gX q f (qb q 256 i + 1) else [UInt8.ofNat i] ++ gX q f (i + 1)) else gX q f (i + 1)) else []
theorem Iu (q : Nat -> Bool) : ∀ (f k : Nat), k < 256 -> 256 - k <= f -> k <= qb q f k ∧ qb q f k < 256 ∧ (∀ j, k < j -> j <= qb q f k -> q j = true) ∧ (qb q f k + 1 = 256 ∨ q (qb q f k + 1) = false)
 | 0, k, h1, h2 => by omega
 | f + 1, k, h1, h2 => by
  unfold qb
  cases hc : decide (k + 1 < 256) && q (k + 1)
  ·simp only [cond_false]
   refine ⟨Nat.le_refl _, h1, fun j a b => by omega, ?_⟩
   simp only [Bool.and_eq_false_iff, decide_eq_false_iff_not] at hc
   rcases hc with hc | hc
   ·left; omega
   ·right; exact hc
  ·simp only [cond_true]
   simp only [Bool.and_eq_true, decide_eq_true_eq] at hc
   obtain ⟨a1, a2, a3, a4⟩ := Iu q f (k + 1) hc.1 (by omega)
   refine ⟨by omega, a2, fun j b c => ?_, a4⟩
   by_cases hj : j = k + 1
   ·rw [hj]; exact hc.2
   ·exact a3 j (by omega) c
def kW (i m : Nat) : List UInt8 := (List.range' i m).map UInt8.ofNat
def gG (q : Nat -> Bool) (i : Nat) : List UInt8 := ((List.range' i (256 - i)).filter q).map UInt8.ofNat
theorem ofNat_succ {i : Nat} : UInt8.ofNat i + 1 = UInt8.ofNat (i + 1) := by
 rw [<- UInt8.toNat_inj, UInt8.toNat_add]; simp
theorem Tf (rest : List UInt8) : ∀ (m i : Nat), (∀ d r, rest = d :: r -> (d == UInt8.ofNat (i + m + 1)) = false) -> iA (kW i (m + 1) ++ rest) = kW i (m + 1) :: iA rest
 | 0, i, h => by
  have e : kW i 1 = [UInt8.ofNat i] := rfl
  rw [Nat.zero_add, e, List.singleton_append]
  cases rest with
  | nil => rfl
  | cons d r =>
   obtain ⟨x, rest, e1⟩ := Da d r
   have hd := h d r rfl
   rw [Nat.add_zero, <- ofNat_succ] at hd
   rw [iA, e1]
   simp only [hd, cond_false]
 | m + 1, i, h => by
  have e : ∀ m, kW i (m + 1) = UInt8.ofNat i :: kW (i + 1) m := fun m => by simp [kW, List.range'_succ]
  have ih := Tf rest m (i + 1) (fun d r hr => by have := h d r hr; rw [show i + 1 + m + 1 = i + (m + 1) + 1 by omega]; exact this)
  have e2 : kW (i + 1) (m + 1) = UInt8.ofNat (i + 1) :: kW (i + 1 + 1) m := by simp [kW, List.range'_succ]
  rw [e (m + 1), List.cons_append, iA, ih, e2]
  simp only [ofNat_succ, beq_self_eq_true, cond_true]
theorem ZN {q : Nat -> Bool} {i : Nat} (hi : i < 256) (h : q i = false) : gG q i = gG q (i + 1) := by
 unfold gG
 rw [show 256 - i = (256 - (i + 1)) + 1 by omega, List.range'_succ, List.filter_cons_of_neg (by simp [h])]
theorem Po {q : Nat -> Bool} : ∀ (m i : Nat), i + m <= 256 -> (∀ j, i <= j -> j < i + m -> q j = true) -> gG q i = kW i m ++ gG q (i + m)
 | 0, i, _, _ => by simp [kW]
 | m + 1, i, h1, h2 => by
  have ih := Po m (i + 1) (by omega) (fun j a b => h2 j (by omega) (by omega))
  have e : gG q i = UInt8.ofNat i :: gG q (i + 1) := by
   unfold gG
   rw [show 256 - i = (256 - (i + 1)) + 1 by omega, List.range'_succ, List.filter_cons_of_pos (h2 i (by omega) (by omega)), List.map_cons]
  rw [e, ih, show i + (m + 1) = i + 1 + m by omega]
  simp [kW, List.range'_succ]
theorem WS {q : Nat -> Bool} {i : Nat} {d : UInt8} {r : List UInt8} (h : gG q i = d :: r) : ∃ j, i <= j ∧ j < 256 ∧ d = UInt8.ofNat j ∧ q j = true := by
 have hm : d ∈ gG q i := by rw [h]; simp
 unfold gG at hm
 obtain ⟨j, hj, rfl⟩ := List.mem_map.1 hm
 obtain ⟨h1, h2⟩ := List.mem_filter.1 hj
 rw [List.mem_range'_1] at h1
 exact ⟨j, h1.1, by omega, rfl, h2⟩
theorem EU (i m : Nat) : (kW i m).length = m := by simp [kW]
theorem ZO {i j : Nat} (hi : i < 256) (hj : j < 256) (h : i ≠ j) : (UInt8.ofNat i == UInt8.ofNat j) = false := by
 rw [Bool.eq_false_iff, ne_eq, beq_iff_eq, <- UInt8.toNat_inj, UInt8.toNat_ofNat', UInt8.toNat_ofNat']
 omega
theorem Iw (q : Nat -> Bool) : ∀ (n i f : Nat), 256 - i <= n -> 256 - i < f -> ((iA (gG q i)).map oW).flatten = gX q f i := by
 intro n
 induction n with
 | zero =>
  intro i f h hf
  obtain ⟨f, rfl⟩ : ∃ k, f = k + 1 := ⟨f - 1, by omega⟩
  have e : gG q i = [] := by unfold gG; rw [show 256 - i = 0 by omega]; rfl
  rw [e]; unfold gX; rw [if_neg (by omega)]; rfl
 | succ n ih =>
  intro i f h hf
  obtain ⟨f, rfl⟩ : ∃ k, f = k + 1 := ⟨f - 1, by omega⟩
  by_cases hi : i < 256
  case neg =>
   have e : gG q i = [] := by unfold gG; rw [show 256 - i = 0 by omega]; rfl
   rw [e]; unfold gX; rw [if_neg hi]; rfl
  unfold gX
  rw [if_pos hi]
  cases hq : q i
  ·simp only [cond_false]
   rw [ZN hi hq]
   exact ih (i + 1) f (by omega) (by omega)
  ·simp only [cond_true]
   obtain ⟨a1, a2, a3, a4⟩ := Iu q 256 i hi (by omega)
   generalize hk : qb q 256 i = k at *
   have hrest : ∀ (m : Nat), i + m = k -> ∀ d r, gG q (k + 1) = d :: r -> (d == UInt8.ofNat (i + m + 1)) = false := by
    intro m hm d r hr
    obtain ⟨j, b1, b2, rfl, b4⟩ := WS hr
    rw [hm]
    refine ZO b2 (by omega) ?_
    intro hj
    subst hj
    rcases a4 with a4 | a4
    ·omega
    ·rw [a4] at b4; simp at b4
   have hF := Po (q := q) (k - i + 1) i (by omega) (fun j c1 c2 => by
    by_cases hj : j = i
    ·rw [hj]; exact hq
    ·exact a3 j (by omega) (by omega))
   rw [show i + (k - i + 1) = k + 1 by omega] at hF
   have hR := Tf (gG q (k + 1)) (k - i) i (hrest (k - i) (by omega))
   rw [hF, hR, List.map_cons, List.flatten_cons, ih (k + 1) f (by omega) (by omega)]
   by_cases h2 : i + 2 <= k
   ·rw [decide_eq_true h2]
    simp only [cond_true]
    have hs : oW (kW i (k - i + 1)) = [UInt8.ofNat i, 45, UInt8.ofNat k] := by
     unfold oW
     rw [EU, decide_eq_true (show k - i + 1 > 2 by omega)]
     simp only [cond_true, Nat.add_sub_cancel]
     have h1 : (kW i (k - i + 1)).take 1 = [UInt8.ofNat i] := by simp [kW, List.range'_succ]
     have h3 : (kW i (k - i + 1)).drop (k - i) = [UInt8.ofNat k] := by
      have : kW i (k - i + 1) = kW i (k - i) ++ [UInt8.ofNat k] := by
       unfold kW; rw [List.range'_concat, List.map_append, Nat.one_mul, show i + (k - i) = k by omega]; rfl
      rw [this, List.drop_append_of_le_length (by rw [EU]; omega), List.drop_of_length_le (by rw [EU]; omega)]; rfl
     rw [h1, h3]; rfl
    rw [hs]
   ·rw [decide_eq_false h2]
    simp only [cond_false]
    have hs : oW (kW i (k - i + 1)) = kW i (k - i + 1) := by
     unfold oW
     rw [EU, decide_eq_false (show ¬ k - i + 1 > 2 by omega)]; rfl
    rw [hs]
    by_cases h0 : k = i
    ·subst h0
     rw [Nat.sub_self]; rfl
    ·have h1 : k = i + 1 := by omega
     subst h1
     rw [show i + 1 - i + 1 = 2 by omega, show kW i 2 = [UInt8.ofNat i, UInt8.ofNat (i + 1)] from rfl]
     obtain ⟨f, rfl⟩ : ∃ k, f = k + 1 := ⟨f - 1, by omega⟩
     have hq1 := a3 (i + 1) (by omega) (by omega)
     have hend : qb q 256 (i + 1) = i + 1 := by
      unfold qb
      rcases a4 with a4 | a4
      ·rw [show decide (i + 1 + 1 < 256) = false from decide_eq_false (by omega)]; rfl
      ·rw [a4, Bool.and_false]; rfl
     have hsc : gX q (f + 1) (i + 1) = [UInt8.ofNat (i + 1)] ++ gX q f (i + 1 + 1) := by
      rw [gX, if_pos (by omega), hq1, hend]
      simp only [cond_true]
      rw [decide_eq_false (by omega)]; rfl
     rw [hsc]
     have hfu : gX q (f + 1) (i + 1 + 1) = gX q f (i + 1 + 1) := by
      rw [<- ih (i + 1 + 1) (f + 1) (by omega) (by omega), <- ih (i + 1 + 1) f (by omega) (by omega)]
     rw [hfu]; rfl
end Go.Dec
namespace Go.Dec
theorem Ya : ((List.range 256).all fun i => decide (dG .u8 .and (i : Int) 63 = ((i % 64 : Nat) : Int))) = true := by decide +kernel
theorem zbn {x k : Nat} (hk : k < 64) : kP .u64 (x : Int) (k : Int) = ((x / 2 ^ k : Nat) : Int) := by
 unfold kP
 rw [Int.toNat_natCast, show IntKind.u64.bits = 64 from rfl, Nat.min_eq_left (show k <= 64 by omega)]
 rw [show ((2 : Int) ^ k) = ((2 ^ k : Nat) : Int) by simp]
 rw [Int.fdiv_eq_ediv_of_nonneg _ (Int.natCast_nonneg _)]
 exact (Int.natCast_ediv x (2 ^ k)).symm
theorem MX {n : Nat} (p : Nat -> Bool) {c : Nat} (hc : c < 256) : qp n (wd p, (c : Int)) = some (p c) := by
 unfold qp
 simp only
 have h1 := zcx hc
 have h2 := qh Ya hc
 simp only [decide_eq_true_eq] at h2
 rw [ah (by decide), h1.1, ah (dM (i := c / 64) (n := 4) (by omega)), ah (by simp; omega), Int.toNat_natCast, h2, ah (by simp; omega)]
 have hk : c / 64 = 0 ∨ c / 64 = 1 ∨ c / 64 = 2 ∨ c / 64 = 3 := by omega
 have hg : (wd p).getD (c / 64) (Ty.dflt (.int .u64)) = ((yu p (c / 64) : Nat) : Int) := by
  rcases hk with h | h | h | h <;> rw [h] <;> rfl
 rw [hg, zbn (by omega)]
 have hlt := nZ p (c / 64)
 rw [show (1 : Int) = ((1 : Nat) : Int) from rfl, zei (Nat.lt_of_le_of_lt (Nat.div_le_self _ _) hlt) (by omega)]
 have ht := xJ p (c / 64) (c % 64)
 rw [decide_eq_true (show c % 64 < 64 by omega), Bool.true_and, show 64 * (c / 64) + c % 64 = c by omega] at ht
 rw [<- ht, Nat.testBit_eq_decide_div_mod_eq]
 congr 1
 rw [Nat.and_one_is_mod, Bool.eq_iff_iff, beq_iff_eq, decide_eq_true_eq]
 omega
def dK (p : Nat -> Bool) : Nat -> Bool := fun i => p i && !(iQ.contains (UInt8.ofNat i))
def yA (p : Nat -> Bool) : List UInt8 := (bif p 10 then [92, 110] else []) ++ ((bif p 91 then [91] else []) ++ ((bif p 92 then [92] else []) ++ ((bif p 94 then [94] else []) ++ ((bif p 45 then [45] else []) ++ [93]))))
def EW (p : Nat -> Bool) : List UInt8 := [91] ++ (bif p 93 then [93] else [])
def EX (p : Nat -> Bool) : List UInt8 := EW p ++ gX (dK p) 257 0 ++ yA p
def uR (p : Nat -> Bool) : List UInt8 :=
 match aU p with
 | [] => []
 | [c] => I9 c
 | l => bif l.length == 256 then [46] else bif l == [45, 94] then [91, 45, 94, 93] else EX p
theorem Yb (l : List UInt8) : dQ (aY l) = l := by
 simp [dQ, aY, List.map_map, Function.comp_def]
theorem Yc : ((List.range 256).all fun i => decide (Go.Lib.indexByte iQ (UInt8.ofNat i) < 0) == !(iQ.contains (UInt8.ofNat i))) = true := by decide +kernel
theorem Tg : ((List.range 256).all fun i => decide (Go.Lib.indexByte l5 (UInt8.ofNat i) ≥ 0) == l5.contains (UInt8.ofNat i)) = true := by decide +kernel
theorem apart_eq {n : Nat} {ρ : Type} (d : UInt8) (X Y : Option ρ) : (ob (strings_IndexByte n ([93, 91, 92, 94, 45, 10], (d.toNat : Int))) fun y => br (decide (y < 0)) X Y) = bif !(iQ.contains d) then X else Y := by
 have := qh Yc d.toNat_lt
 rw [beq_iff_eq, I6] at this
 unfold strings_IndexByte
 simp only [aA, Int.toNat_natCast]
 rw [show (d.toNat).toUInt8 = d from I6 d, <- SC, <- this]; rfl
theorem zbo {n : Nat} (d : UInt8) : AA n (d.toNat : Int) = some (I9 d) := by
 have := qh Tg d.toNat_lt
 rw [beq_iff_eq, I6] at this
 unfold AA I9
 simp only
 have hb : dQ [(d.toNat : Int)] = [d] := by simp [dQ]
 rw [show ((d.toNat : Int) == 10) = (d == 10) by rw [qK]; exact eqI 10]
 unfold strings_IndexByte
 simp only [aA, Int.toNat_natCast]
 rw [show (d.toNat).toUInt8 = d from I6 d, hb]
 cases d == 10
 ·simp only [aM, cond_false]
  rw [show ([46, 91, 92, 42, 94, 36] : List UInt8) = l5 from rfl, this, ah (by simp [av]), SC]
  cases l5.contains d <;> rfl
 ·rfl
theorem Yd (r : List UInt8) : (oW r).length <= r.length := by
 unfold oW
 by_cases h : r.length > 2
 ·rw [decide_eq_true h]; simp; omega
 ·rw [decide_eq_false h]; exact Nat.le_refl _
theorem EY : ∀ l : List (List UInt8), ((l.map oW).flatten).length <= l.flatten.length
 | [] => Nat.le_refl _
 | a :: l => by have := EY l; have := Yd a; simp only [List.map_cons, List.flatten_cons, List.length_append]; omega
theorem MZ (p : Nat -> Bool) : (aU p).filter (fun c => !(iQ.contains c)) = gG (dK p) 0 := by
 unfold aU gG dK
 rw [List.filter_map, List.filter_filter, <- List.range_eq_range']
 congr 1
 apply List.filter_congr
 intro i _
 simp only [Function.comp, Bool.and_comm]
theorem Ye (q : Nat -> Bool) : ∀ i, i + 1 < (gG q 0).length -> ((gG q 0).getD i 0).toNat + 1 < 256 := by
 intro i hi
 have hp : (List.range' 0 256).Pairwise (· < ·) := List.pairwise_lt_range'
 have hq : ((List.range' 0 256).filter q).Pairwise (· < ·) := hp.filter q
 rw [List.pairwise_iff_getElem] at hq
 unfold gG at hi ⊢
 rw [Nat.sub_zero] at hi ⊢
 rw [List.length_map] at hi
 have h := hq i (i + 1) (by omega) hi (by omega)
 have hm : ((List.range' 0 256).filter q)[i + 1] ∈ (List.range' 0 256).filter q := List.getElem_mem _
 have hm2 := (List.mem_filter.1 hm).1
 rw [List.mem_range'_1] at hm2
 rw [List.getD_eq_getElem?_getD, List.getElem?_map, List.getElem?_eq_getElem (by omega)]
 simp only [Option.map_some, Option.getD_some, UInt8.toNat_ofNat']
 omega
theorem Pp (q : Nat -> Bool) : (gG q 0).length <= 256 := by
 unfold gG
 rw [List.length_map]
 have := List.length_filter_le q (List.range' 0 256)
 simpa using this
section
variable {n : Nat}
theorem WT {b : List UInt8} {p : Nat -> Bool} (hn : 10 <= n) (hb : b.length < 1000) : fix (lF n) n (b, (([[10], [91], [92], [94], [45]] : List (List UInt8)).length : Int), 0, wd p, [[10], [91], [92], [94], [45]], ()) = some (b ++ yA p) := by
 obtain ⟨n, rfl⟩ : ∃ m, n = m + 6 := ⟨n - 6, by omega⟩
 have has : ∀ c : Nat, c < 256 -> qp (n + 6) (wd p, (c : Int)) = some (p c) := fun c hc => MX p hc
 have h10 := has 10 (by omega)
 have h91 := has 91 (by omega)
 have h92 := has 92 (by omega)
 have h94 := has 94 (by omega)
 have h45 := has 45 (by omega)
 have step : ∀ (m : Nat) (b : List UInt8) (i : Nat) (c : UInt8), i < 5 -> b.length < 1010 -> ([[10], [91], [92], [94], [45]] : List (List UInt8)).getD i [] = [c] -> c.toNat < 256 ->
   fix (lF (n + 6)) (m + 1) (b, 5, (i : Int), wd p, [[10], [91], [92], [94], [45]], ()) = fix (lF (n + 6)) m (b ++ (bif p c.toNat then (bif c == 10 then [92, 110] else [c]) else []), 5, ((i + 1 : Nat) : Int), wd p, [[10], [91], [92], [94], [45]], ()) := by
  intro m b i c hi hb hc hc2
  rw [aX (by omega), lF]
  simp only
  rw [au (by simp; omega), ah (by rw [dM (by exact hi)]; rfl), Int.toNat_natCast, Nat.zero_add, ah (by simp; omega), show Ty.dflt .str = ([] : List UInt8) from rfl, hc]
  rw [ah (by rfl), show aG 0 [c] 0 = c from rfl, has c.toNat hc2]
  simp only [aA, Nat.add_sub_cancel]
  rw [aK (by omega) (by omega), show (i : Int) + 1 = ((i + 1 : Nat) : Int) from rfl]
  rw [show ([c] == [10]) = (c == 10) by simp]
  cases hp : p c.toNat
  ·simp only [aM, cond_false, List.append_nil]
   first | rfl | (rw [ah (by rfl)]; done) | (rw [ah (by rfl), show aG 0 [c] 0 = c from rfl, has c.toNat hc2, hp]; rfl)
  ·simp only [aR, cond_true]
   cases c == 10
   ·simp only [aM, cond_false]
    rw [ah (by rfl), ah (by simp [av]; omega)]
   ·simp only [aR, cond_true]
    rw [ah (by simp [av]; omega)]
 have l1 : ∀ (x : Bool) (y : List UInt8), y.length <= 2 -> (bif x then y else []).length <= 2 := by intro x y h; cases x <;> simp [h]
 rw [show (([[10], [91], [92], [94], [45]] : List (List UInt8)).length : Int) = 5 from rfl, show (0 : Int) = ((0 : Nat) : Int) from rfl]
 have hlen : ∀ (b : List UInt8) (k : Nat) (c : UInt8), b.length < k -> (b ++ (bif p c.toNat then (bif c == 10 then [92, 110] else [c]) else [])).length < k + 2 := by
  intro b k c h
  rw [List.length_append]
  cases p c.toNat <;> cases c == 10 <;> simp <;> omega
 have b1 := hlen b 1000 10 hb
 have b2 := hlen _ 1002 91 b1
 have b3 := hlen _ 1004 92 b2
 have b4 := hlen _ 1006 94 b3
 have b5 := hlen _ 1008 45 b4
 rw [step (n + 5) b 0 10 (by omega) (by omega) rfl (by decide), step (n + 4) _ 1 91 (by omega) (by omega) rfl (by decide), step (n + 3) _ 2 92 (by omega) (by omega) rfl (by decide), step (n + 2) _ 3 94 (by omega) (by omega) rfl (by decide), step (n + 1) _ 4 45 (by omega) (by omega) rfl (by decide)]
 rw [aX (by omega), lF]
 simp only
 rw [aj (by rfl), ah (by exact decide_eq_true (Nat.le_trans (Nat.add_le_add_right (Nat.le_of_lt b5) _) (by decide)))]
 simp only [yA, List.append_assoc]
 rfl
theorem WU {b0 : List UInt8} {p : Nat -> Bool} {rs : List (List UInt8)} (hn : 400 <= n) (hb : b0.length <= 2) (hrs : rs.flatten.length <= 256) (hrl : rs.length <= 256) : fix (oF n) n (b0, rs, (rs.length : Int), 0, wd p, ()) = some (b0 ++ (rs.map oW).flatten ++ yA p) := by
 have hl : ∀ i, ((rs.take i).map oW).flatten.length <= 256 := by
  intro i
  have h1 := EY (rs.take i)
  have h2 : (rs.take i).flatten.length <= rs.flatten.length := by
   have : rs.flatten = (rs.take i).flatten ++ (rs.drop i).flatten := by rw [<- List.flatten_append, List.take_append_drop]
   rw [this, List.length_append]; omega
  omega
 have key : ∀ k i m, i + k = rs.length -> k < m -> fix (oF n) m (b0 ++ ((rs.take i).map oW).flatten, rs, (rs.length : Int), (i : Int), wd p, ()) = some (b0 ++ (rs.map oW).flatten ++ yA p) := by
  intro k
  induction k with
  | zero =>
   intro i m hi hm
   have := hl rs.length
   rw [List.take_of_length_le (Nat.le_refl _)] at this
   rw [aX hm, oF]
   simp only
   rw [aj (by simp; omega), List.take_of_length_le (by omega)]
   exact WT (by omega) (by rw [List.length_append]; omega)
  | succ k ih =>
   intro i m hi hm
   have hil : i < rs.length := by omega
   have hli := hl i
   have EZ := hl (i + 1)
   have htk : rs.take (i + 1) = rs.take i ++ [rs[i]] := by rw [List.take_add_one, List.getElem?_eq_getElem hil]; rfl
   have ih := ih (i + 1) (m - 1) (by omega) (by omega)
   rw [htk, List.map_append, List.flatten_append] at ih EZ
   simp only [List.map_cons, List.map_nil, List.flatten_cons, List.flatten_nil, List.append_nil] at ih EZ
   rw [List.length_append] at EZ
   have hri : rs[i].length <= 256 := by
    have : ∀ (l : List (List UInt8)) (r : List UInt8), r ∈ l -> r.length <= l.flatten.length := by
     intro l r
     induction l with
     | nil => intro h; simp at h
     | cons a l ih =>
      intro h
      simp only [List.flatten_cons, List.length_append]
      rcases List.mem_cons.1 h with rfl | h
      ·omega
      ·have := ih h; omega
    have := this rs rs[i] (List.getElem_mem _)
    omega
   rw [aX (by omega), oF]
   simp only
   rw [au (by simp; omega), ah (dM hil), eT hil, aK (x := (i : Int) + 1) (by omega) (by omega), show (i : Int) + 1 = ((i + 1 : Nat) : Int) from rfl]
   unfold oW at ih EZ
   by_cases h2 : rs[i].length > 2
   ·rw [decide_eq_true h2] at ih EZ
    simp only [cond_true] at ih EZ
    rw [au (by simp; omega), ah (by simp; omega), show (1 : Int).toNat = 1 from rfl, ah (by simp [av]; omega), aK (by omega) (by omega), ah (by simp; omega)]
    rw [show ((rs[i].length : Int) - 1).toNat = rs[i].length - 1 by omega]
    rw [ah (by simp [av]; omega), ah (by rw [List.length_append, List.length_append]; exact decide_eq_true (by simp only [av]; simp only [List.length_append] at EZ ⊢; omega))]
    rw [List.append_assoc b0]
    exact ih
   ·rw [decide_eq_false h2] at ih EZ
    simp only [cond_false] at ih EZ
    rw [aj (by simp; omega), ah (by rw [List.length_append]; exact decide_eq_true (by simp only [av]; omega))]
    rw [List.append_assoc b0]
    exact ih
 have := key rs.length 0 n (by omega) (by omega)
 simpa using this
theorem M0 {b0 : List UInt8} {p : Nat -> Bool} (hn : 400 <= n) (hb : b0.length <= 2) : lG n (aU p, b0, wd p, ()) = some (b0 ++ gX (dK p) 257 0 ++ yA p) := by
 unfold lG
 simp only
 have hbl := EL p
 rw [ah (by simp [room]; omega), vD]
 have hfin : ∀ g, oG n g (b0, aY (aU p), ((aU p).length : Int), ((aU p).length : Int), wd p, aY ((aU p).filter fun c => !(iQ.contains c)), ()) = some (b0 ++ gX (dK p) 257 0 ++ yA p) := by
  intro g
  unfold oG
  simp only
  have hfl := Pp (dK p)
  rw [aj (by simp), Yb, MZ, zbm (by omega) (by omega) (Ye _)]
  simp only [aA]
  have h1 := Aa (gG (dK p) 0)
  have h2 := @Pn [] (gG (dK p) 0)
  rw [WU hn hb (by rw [h1]; omega) (by omega), Iw (dK p) 256 0 257 (by omega) (by omega)]
 have key : ∀ k i m, i + k = (aU p).length -> k < m -> fix (oG n) m (b0, aY (aU p), ((aU p).length : Int), (i : Int), wd p, aY (((aU p).take i).filter fun c => !(iQ.contains c)), ()) = some (b0 ++ gX (dK p) 257 0 ++ yA p) := by
  intro k
  induction k with
  | zero =>
   intro i m hi hm
   rw [aX hm, List.take_of_length_le (by omega), show i = (aU p).length by omega]
   exact hfin _
  | succ k ih =>
   intro i m hi hm
   have hil : i < (aU p).length := by omega
   have ih := ih (i + 1) (m - 1) (by omega) (by omega)
   have htk : (aU p).take (i + 1) = (aU p).take i ++ [(aU p)[i]] := by rw [List.take_add_one, List.getElem?_eq_getElem hil]; rfl
   rw [htk, List.filter_append] at ih
   rw [aX (by omega), oG]
   simp only
   rw [au (by simp; omega), ah (dM (by rw [vD]; exact hil)), Td hil, apart_eq, aK (by omega) (by omega), show (i : Int) + 1 = ((i + 1 : Nat) : Int) from rfl]
   have hfl : (((aU p).take i).filter fun c => !(iQ.contains c)).length <= 256 := by
    have := List.length_filter_le (fun c => !(iQ.contains c)) ((aU p).take i)
    rw [List.length_take] at this; omega
   cases hc : iQ.contains (aU p)[i]
   ·simp only [Bool.not_false, cond_true]
    rw [List.filter_cons_of_pos (by show (!(iQ.contains _)) = true; rw [hc]; rfl), List.filter_nil] at ih
    rw [ah (by rw [vD, Nat.ble_eq]; unfold room; simp only [List.length_cons, List.length_nil]; omega)]
    have e : ∀ (l : List UInt8) (c : UInt8), aY (l ++ [c]) = aY l ++ [(c.toNat : Int)] := fun l c => by simp [aY]
    rw [e] at ih
    exact ih
   ·simp only [Bool.not_true, cond_false]
    rw [List.filter_cons_of_neg (by show ¬ (!(iQ.contains _)) = true; rw [hc]; simp), List.filter_nil, List.append_nil] at ih
    exact ih
 have := key (aU p).length 0 n (by omega) (by omega)
 simpa [aY] using this
theorem Uf {p : Nat -> Bool} (hn : 400 <= n) : AJ n (wd p) = some (uR p) := by
 unfold AJ
 simp only
 rw [Ip, aA]
 have h93 := MX (n := n) p (c := 93) (by omega)
 have hj : (ob (qp n (wd p, 93)) fun y4 => br y4 (chk (decide ([91].length + ([93] : List UInt8).length <= av)) (jn (lG n) (aU p, [91] ++ [93], wd p, ()))) (jn (lG n) (aU p, [91], wd p, ()))) = some (EX p) := by
  rw [show (93 : Int) = ((93 : Nat) : Int) from rfl, h93, aA]
  unfold EX EW
  cases p 93
  ·simp only [aM, bX, cond_false, List.append_nil]
   exact M0 hn (by simp)
  ·simp only [aR, bX, cond_true]
   rw [ah (by decide)]
   exact M0 hn (by simp)
 rw [hj]
 unfold uR
 match aU p with
 | [] => rfl
 | [c] =>
  rw [aj (by rfl), au (by rfl), ah (by rfl), show aG 0 [c] 0 = c from rfl, zbo]; rfl
 | a :: b :: l =>
  rw [aj (by simp; omega), aj (by simp; omega)]
  rw [show (((a :: b :: l).length : Int) == 256) = ((a :: b :: l).length == 256) by rw [Bool.eq_iff_iff, beq_iff_eq, beq_iff_eq]; omega]
  simp only
  cases ((a :: b :: l).length == 256)
  ·cases (a :: b :: l == [45, 94]) <;> rfl
  ·rfl
end
end Go.Dec
namespace Go.Dec
def Cr (p : Nat -> Bool) : List UInt8 := (bif p 10 then [92, 110] else []) ++ ((bif p 91 then [91] else []) ++ ((bif p 92 then [92] else []) ++ (bif aU p == [45, 94] then [45, 94, 93] else ((bif p 94 then [94] else []) ++ ((bif p 45 then [45] else []) ++ [93])))))
theorem E5 {p : Nat -> Bool} {i : Nat} (hi : i < 256) : p i = true <-> UInt8.ofNat i ∈ aU p := by
 unfold aU
 constructor
 ·intro h
  exact List.mem_map.2 ⟨i, List.mem_filter.2 ⟨by simpa using hi, h⟩, rfl⟩
 ·intro h
  obtain ⟨j, hj, e⟩ := List.mem_map.1 h
  obtain ⟨h1, h2⟩ := List.mem_filter.1 hj
  have hj2 : j < 256 := by simpa using h1
  have e2 := congrArg UInt8.toNat e
  simp only [UInt8.toNat_ofNat'] at e2
  have : j = i := by omega
  rw [<- this]; exact h2
theorem Iy {p : Nat -> Bool} {c : Nat} (hc : c < 256) : (bx p).getD ((c : Int).toNat) (Ty.dflt .bool) = p c := by
 rw [Int.toNat_natCast]; exact yQ false hc
section
variable {n : Nat} {p : Nat -> Bool}
theorem M4 {out : List UInt8} (hn : 300 <= n) (ho : out.length < 2000) : pK n (out, bx p, ()) = some (out ++ (bif aU p == [45, 94] then [45, 94, 93] else ((bif p 94 then [94] else []) ++ ((bif p 45 then [45] else []) ++ [93])))) := by
 unfold pK
 simp only
 have h94 := @Iy p 94 (by omega)
 have h45 := @Iy p 45 (by omega)
 rw [show ((94 : Nat) : Int) = 94 from rfl] at h94
 rw [show ((45 : Nat) : Int) = 45 from rfl] at h45
 rw [xK hn, aA, h94, h45]
 cases aU p == [45, 94]
 ·rw [aM, ah (by decide), ah (by decide)]
  cases p 94 <;> cases p 45
  ·rw [aM, ah (by decide), ah (by decide), aM, ah (by simp [av]; omega)]; simp
  ·rw [aM, ah (by decide), ah (by decide), aR, ah (by simp [av]; omega), ah (by simp [av]; omega)]; simp
  ·rw [aR, ah (by simp [av]; omega), ah (by decide), ah (by decide), aM, ah (by simp [av]; omega)]; simp
  ·rw [aR, ah (by simp [av]; omega), ah (by decide), ah (by decide), aR, ah (by simp [av]; omega), ah (by simp [av]; omega)]; simp
 ·rw [aR, ah (by simp [av]; omega)]; rfl
theorem Ti {out : List UInt8} {g : List UInt8 × Int × List Bool × Unit -> Option (List UInt8)} {i : Nat} (hn : 300 <= n) (ho : out.length < 1000) (hi : 256 <= i) : jH n g (out, (i : Int), bx p, ()) = some (out ++ Cr p) := by
 unfold jH
 simp only
 have h10 := @Iy p 10 (by omega)
 have h91 := @Iy p 91 (by omega)
 have h92 := @Iy p 92 (by omega)
 rw [show ((10 : Nat) : Int) = 10 from rfl] at h10
 rw [show ((91 : Nat) : Int) = 91 from rfl] at h91
 rw [show ((92 : Nat) : Int) = 92 from rfl] at h92
 have j4 : ∀ out : List UInt8, out.length < 1010 -> pO n (out, bx p, ()) = some (out ++ ((bif p 92 then [92] else []) ++ (bif aU p == [45, 94] then [45, 94, 93] else ((bif p 94 then [94] else []) ++ ((bif p 45 then [45] else []) ++ [93]))))) := by
  intro out ho
  unfold pO
  simp only [bX]
  rw [ah (by decide), ah (by decide), h92]
  cases p 92
  ·rw [aM, M4 hn (by omega)]; simp
  ·rw [aR, ah (by simp [av]; omega), M4 hn (by simp; omega)]; simp
 have j3 : ∀ out : List UInt8, out.length < 1005 -> pQ n (out, bx p, ()) = some (out ++ ((bif p 91 then [91] else []) ++ ((bif p 92 then [92] else []) ++ (bif aU p == [45, 94] then [45, 94, 93] else ((bif p 94 then [94] else []) ++ ((bif p 45 then [45] else []) ++ [93])))))) := by
  intro out ho
  unfold pQ
  simp only [bX]
  rw [ah (by decide), ah (by decide), h91]
  cases p 91
  ·rw [aM, j4 _ (by omega)]; simp
  ·rw [aR, ah (by simp [av]; omega), j4 _ (by simp; omega)]; simp
 rw [aj (by simp; omega), ah (by decide), ah (by decide), h10, bX, bX]
 unfold Cr
 cases p 10
 ·rw [aM, j3 _ (by omega)]; simp
 ·rw [aR, ah (by simp [av]; omega), j3 _ (by simp; omega)]; simp
theorem Tj {i : Nat} (hn : 300 <= n) (hi : i < 256) : je n ([93, 91, 92, 94, 45, 10], IntKind.wrap .u8 (i : Int)) = some (iQ.contains (UInt8.ofNat i)) := by
 rw [IntWalk.u8_in _ (by omega)]
 have h := C8 (n := n) iQ (by simp [iQ]; omega) (by simp [iQ]) (UInt8.ofNat i)
 rw [UInt8.toNat_ofNat'] at h
 rw [show i % 2 ^ 8 = i by omega] at h
 exact h
theorem ZP {out : List UInt8} {g : List UInt8 × Int × List Bool × Unit -> Option (List UInt8)} {i : Nat} {t u : Int} {v : Bool} (hn : 300 <= n) : ∀ (f k m : Nat), k < 256 -> 256 - k <= f -> f < m ->
  fix (uY n g) m (out, (i : Int), (k : Int), t, u, v, bx p, ()) = lW n g (out, (i : Int), ((qb (dK p) f k : Nat) : Int), t, u, v, bx p, ()) := by
 intro f
 induction f with
 | zero => intro k m h1 h2; omega
 | succ f ih =>
  intro k m h1 h2 hm
  rw [aX (by omega), uY]
  simp only
  rw [aK (by omega) (by omega), show (k : Int) + 1 = ((k + 1 : Nat) : Int) from rfl]
  unfold qb
  by_cases hk : k + 1 < 256
  ·rw [au (by simp; omega), ah (dM (i := k + 1) (n := 256) hk), ah (by simp; omega), Iy hk, decide_eq_true hk, Bool.true_and, bX]
   have hpl : dK p (k + 1) = (p (k + 1) && !(iQ.contains (UInt8.ofNat (k + 1)))) := rfl
   rw [hpl]
   cases hp : p (k + 1)
   ·rw [aM, Bool.false_and]; rfl
   ·rw [aR, Tj hn hk, aA, Bool.true_and]
    cases iQ.contains (UInt8.ofNat (k + 1))
    ·rw [Bool.not_false, aR]
     exact ih (k + 1) (m - 1) hk (by omega) (by omega)
    ·rw [Bool.not_true, aM]; rfl
  ·rw [aj (by simp; omega), decide_eq_false hk, bX]; rfl
theorem Yf (hn : 300 <= n) : ∀ (d i f m : Nat) (out : List UInt8), 256 - i <= d -> 256 - i < f -> d < m -> i <= 256 -> out.length <= 3 * i + 3 ->
  fix (jH n) m (out, (i : Int), bx p, ()) = some (out ++ gX (dK p) f i ++ Cr p) := by
 intro d
 induction d with
 | zero =>
  intro i f m out h1 h2 hm hi ho
  obtain ⟨f, rfl⟩ : ∃ k, f = k + 1 := ⟨f - 1, by omega⟩
  rw [aX hm, Ti hn (by omega) (by omega), gX, if_neg (by omega)]; simp
 | succ d ih =>
  intro i f m out h1 h2 hm hi ho
  obtain ⟨f, rfl⟩ : ∃ k, f = k + 1 := ⟨f - 1, by omega⟩
  by_cases hlt : i < 256
  case neg => rw [aX (by omega), Ti hn (by omega) (by omega), gX, if_neg hlt]; simp
  rw [aX (by omega), jH]
  simp only
  rw [au (by simp; omega), ah (dM (i := i) (n := 256) hlt), ah (by simp; omega), Iy hlt, aK (x := (i : Int) + 1) (by omega) (by omega), show (i : Int) + 1 = ((i + 1 : Nat) : Int) from rfl]
  unfold gX
  rw [if_pos hlt]
  have hpl : dK p i = (p i && !(iQ.contains (UInt8.ofNat i))) := rfl
  have next : dK p i = false -> fix (jH n) (m - 1) (out, ((i + 1 : Nat) : Int), bx p, ()) = some (out ++ (bif dK p i then (bif decide (i + 2 <= qb (dK p) 256 i) then [UInt8.ofNat i, 45, UInt8.ofNat (qb (dK p) 256 i)] ++ gX (dK p) f (qb (dK p) 256 i + 1) else [UInt8.ofNat i] ++ gX (dK p) f (i + 1)) else gX (dK p) f (i + 1)) ++ Cr p) := by
   intro h
   rw [h]
   exact ih (i + 1) f (m - 1) out (by omega) (by omega) (by omega) (by omega) (by omega)
  cases hp : p i
  ·rw [Bool.not_false, aR]
   exact next (by rw [hpl, hp]; rfl)
  ·rw [Bool.not_true, aM, Tj hn hlt, aA]
   cases ha : iQ.contains (UInt8.ofNat i)
   ·rw [aM, bX, show dK p i = true by rw [hpl, hp, ha]; rfl]
    simp only [cond_true]
    unfold AL
    simp only
    rw [ZP hn 256 i n hlt (by omega) (by omega)]
    obtain ⟨a1, a2, a3, a4⟩ := Iu (dK p) 256 i hlt (by omega)
    generalize qb (dK p) 256 i = k at *
    unfold lW
    simp only
    rw [aK (x := (k : Int) - (i : Int)) (by omega) (by omega), IntWalk.u8_in (i : Int) (by omega), IntWalk.u8_in (k : Int) (by omega)]
    have hb1 : dQ [(i : Int)] = [UInt8.ofNat i] := rfl
    have hb3 : dQ [(i : Int), 45, (k : Int)] = [UInt8.ofNat i, 45, UInt8.ofNat k] := rfl
    rw [hb1, hb3]
    by_cases h3 : i + 2 <= k
    ·rw [au (by simp; omega), decide_eq_true h3, ah (by simp [av]; omega), aK (by omega) (by omega), show (k : Int) + 1 = ((k + 1 : Nat) : Int) from rfl]
     simp only [cond_true]
     rw [ih (k + 1) f (m - 1) _ (by omega) (by omega) (by omega) (by omega) (by simp; omega)]
     simp
    ·rw [aj (by simp; omega), decide_eq_false h3, ah (by simp [av]; omega), aK (by omega) (by omega), show (i : Int) + 1 = ((i + 1 : Nat) : Int) from rfl]
     simp only [cond_false]
     rw [ih (i + 1) f (m - 1) _ (by omega) (by omega) (by omega) (by omega) (by simp; omega)]
     simp
   ·rw [aR]
    exact next (by rw [hpl, hp, ha]; rfl)
theorem Qe (hn : 300 <= n) : wz n (bx p) = some (EW p ++ gX (dK p) 257 0 ++ Cr p) := by
 unfold wz
 simp only
 have h93 := @Iy p 93 (by omega)
 rw [show ((93 : Nat) : Int) = 93 from rfl] at h93
 rw [ah (by decide), ah (by decide), h93, bX, bX]
 unfold EW uZ
 simp only
 have := fun out h => Yf (n := n) (p := p) hn 256 0 257 n out (by omega) (by omega) (by omega) (by omega) h
 rw [show ((0 : Nat) : Int) = 0 from rfl] at this
 cases p 93
 ·rw [aM, this _ (by simp)]; simp
 ·rw [aR, ah (by decide), this _ (by simp)]; rfl
theorem WV {c : UInt8} (hn : 300 <= n) : qg n ((c.toNat : Int), [46, 91, 92, 42, 94, 36]) = some (I9 c) := by
 unfold qg I9
 simp only
 have hb : dQ [(c.toNat : Int)] = [c] := by simp [dQ]
 rw [show ((c.toNat : Int) == 10) = (c == 10) by rw [qK]; exact eqI 10, hb]
 cases c == 10
 ·have h := C8 (n := n) l5 (by simp [l5]; omega) (by simp [l5]) c
  rw [aM, show ([46, 91, 92, 42, 94, 36] : List UInt8) = l5 from rfl, h, aA, ah (by simp [av]), SC]
  simp only [cond_false]
  cases l5.contains c <;> rfl
 ·rfl
theorem Yg (h2 : 2 <= (aU p).length) (E8 : (aU p).length ≠ 256) : uR p = EW p ++ gX (dK p) 257 0 ++ Cr p := by
 have hsh : uR p = bif aU p == [45, 94] then [91, 45, 94, 93] else EX p := by
  unfold uR
  match hb : aU p, h2, E8 with
  | [], h2, _ => simp at h2
  | [c], h2, _ => simp at h2
  | a :: b :: l, _, E8 =>
   simp only
   have : ((a :: b :: l).length == 256) = false := by rw [Bool.eq_false_iff, ne_eq, beq_iff_eq]; exact E8
   rw [this]; rfl
 rw [hsh]
 cases hb : aU p == [45, 94]
 ·unfold EX Cr yA
  rw [hb]; rfl
 ·have hb2 : aU p = [45, 94] := by simpa using hb
  have hnot : ∀ i, i < 256 -> i ≠ 45 -> i ≠ 94 -> p i = false := by
   intro i hi h1 h2
   cases hp : p i
   ·rfl
   ·have := (E5 (p := p) hi).1 hp
    rw [hb2] at this
    simp only [List.mem_cons, List.not_mem_nil, or_false] at this
    rcases this with h | h
    ·have := congrArg UInt8.toNat h; simp only [UInt8.toNat_ofNat'] at this; exact absurd (show i = 45 by have h45 : (45 : UInt8).toNat = 45 := rfl; omega) h1
    ·have := congrArg UInt8.toNat h; simp only [UInt8.toNat_ofNat'] at this; exact absurd (show i = 94 by have h45 : (94 : UInt8).toNat = 94 := rfl; omega) h2
  have hsc : gX (dK p) 257 0 = [] := by
   have hf : gG (dK p) 0 = [] := by
    rw [<- MZ, hb2]; decide
   have := Iw (dK p) 256 0 257 (by omega) (by omega)
   rw [hf] at this
   exact this.symm
  unfold EW Cr
  rw [hsc, hb, hnot 93 (by omega) (by omega) (by omega), hnot 10 (by omega) (by omega) (by omega), hnot 91 (by omega) (by omega) (by omega), hnot 92 (by omega) (by omega) (by omega)]
  rfl
theorem Qf (hn : 400 <= n) : wB n (bx p) = some (uR p) := by
 unfold wB yh
 simp only
 rw [zm (by omega), aA, xK (by omega), Qe (by omega)]
 by_cases h0 : (aU p).length = 0
 ·rw [au (by simp [h0])]
  have : aU p = [] := List.length_eq_zero_iff.1 h0
  unfold uR; rw [this]; rfl
 ·rw [aj (by rw [Bool.eq_false_iff, ne_eq, beq_iff_eq]; omega)]
  by_cases h1 : (aU p).length = 1
  ·rw [au (by simp [h1])]
   obtain ⟨c, hc⟩ := List.length_eq_one_iff.1 h1
   unfold uR
   rw [hc]
   simp only [aA]
   rw [ah (by rfl), show aG 0 [c] 0 = c from rfl, WV (by omega)]
   rfl
  ·rw [aj (by rw [Bool.eq_false_iff, ne_eq, beq_iff_eq]; omega)]
   by_cases E8 : (aU p).length = 256
   ·rw [au (by simp [E8])]
    unfold uR
    match hb : aU p, h0, h1, E8 with
    | [], h0, _, _ => simp at h0
    | [c], _, h1, _ => simp at h1
    | a :: b :: l, _, _, E8 =>
     simp only
     rw [show ((a :: b :: l).length == 256) = true by rw [beq_iff_eq]; exact E8]; rfl
   ·rw [aj (by rw [Bool.eq_false_iff, ne_eq, beq_iff_eq]; omega), Yg (by omega) E8]; rfl
end
end Go.Dec
