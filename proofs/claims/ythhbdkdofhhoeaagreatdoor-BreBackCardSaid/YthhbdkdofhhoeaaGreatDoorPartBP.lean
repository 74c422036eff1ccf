/- Part of a proof over this seat: a library of my own, and what it says of this seat. No statement is proved here. -/
import Derived.Test.YthhbdkdofhhoeaaGreatDoorPartBO
namespace Go.Dec
theorem zCe : ∀ k u, (wQ k u).length <= k := by
 intro k
 induction k with
 | zero => intro u; simp [wQ]
 | succ k ih => intro u; unfold wQ; split; simp; have := ih (u / 10); simp; omega
theorem Ak {n : Nat} {x : Int} (h1 : -1 <= x) (h2 : x < 1000000) : strconv_Itoa n x = some (dG x) := by
 unfold strconv_Itoa
 rw [aA (by simp; omega)]
theorem kG {x : Int} : (dG x).length <= 21 := by
 unfold dG
 have := zCe 20 x.natAbs
 have := zCe 20 x.toNat
 split <;> simp <;> omega
theorem zMy (p : Nat -> Bool) (k : Nat) : Rn k (zZ p k) = ((List.range 64).filter fun j => p (64 * k + j)).map fun j => UInt8.ofNat (64 * k + j) := by
 unfold Rn
 congr 1
 apply List.filter_congr
 intro j hj
 rw [xA]
 have : j < 64 := by simpa using hj
 simp [this]
theorem zHn (p : Nat -> Bool) (k : Nat) : (((List.range 64).map fun j => 64 * k + j).filter p).map UInt8.ofNat = ((List.range 64).filter fun j => p (64 * k + j)).map fun j => UInt8.ofNat (64 * k + j) := by
 rw [List.filter_map, List.map_map]; rfl
theorem zJw (p : Nat -> Bool) : kK (wd p) = aY p := by
 have e : List.range 256 = (List.range 64).map (fun j => 64 * 0 + j) ++ (List.range 64).map (fun j => 64 * 1 + j) ++ (List.range 64).map (fun j => 64 * 2 + j) ++ (List.range 64).map (fun j => 64 * 3 + j) := by decide +kernel
 unfold aY
 rw [e]
 simp only [List.filter_append, List.map_append, zHn]
 unfold kK wd
 simp only [zP, word, Int.toNat_natCast, zMy, List.append_nil, List.append_assoc]
theorem Lx {n : Nat} (p : Nat -> Bool) : qP n (wd p) = some (aY p) := by
 unfold qP
 have h : ∀ k, 0 <= word p k ∧ word p k < 18446744073709551616 := fun k => by have := nW p k; unfold word; omega
 rw [aA (by
  rw [Bool.and_eq_true, List.all_eq_true]
  refine ⟨rfl, fun w hw => ?_⟩
  have : w = word p 0 ∨ w = word p 1 ∨ w = word p 2 ∨ w = word p 3 := by simpa [wd] using hw
  rcases this with rfl | rfl | rfl | rfl <;> simp [h]), zJw]
def rA (l : List UInt8) : List UInt8 := l.flatMap fun c => [hexDigit (c.toNat / 16), hexDigit (c.toNat % 16)]
def bR : Pt -> List UInt8
 | .empty => [101]
 | .bytes p => [91] ++ rA (aY p) ++ [93]
 | .bol => [94]
 | .eol => [36]
 | .cat a b => [38] ++ (bR a ++ bR b)
 | .alt a b => [124] ++ (bR a ++ bR b)
 | .times a lo hi => [42] ++ dG lo ++ [44] ++ dG hi ++ [59] ++ bR a
 | .group a _ => [40] ++ bR a ++ [41]
 | .ref m => [92] ++ dG (m : Int)
theorem Qi (l : List UInt8) : (rA l).length = 2 * l.length := by
 induction l with
 | nil => rfl
 | cons c l ih => simp only [rA, List.flatMap_cons, List.length_append] at ih ⊢; rw [ih]; simp; omega
theorem iZ : ∀ t : Pt, (bR t).length <= 600 * t.sz
 | .empty | .bol | .eol => by simp [bR, Pt.sz]
 | .bytes p => by have := Gw p; simp [bR, Pt.sz, Qi]; omega
 | .cat a b => by have := iZ a; have := iZ b; simp [bR, Pt.sz]; omega
 | .alt a b => by have := iZ a; have := iZ b; simp [bR, Pt.sz]; omega
 | .times a lo hi => by have := iZ a; have := @kG lo; have := @kG hi; simp [bR, Pt.sz]; omega
 | .group a _ => by have := iZ a; simp [bR, Pt.sz]; omega
 | .ref m => by have := @kG (m : Int); simp [bR, Pt.sz]; omega
section
variable {n : Nat} {l : List Nd}
theorem zOi {d : Nat} (hd : d < 16) : gY n ((d : Int), 16) = some [hexDigit d] := by
 unfold gY
 simp only
 rw [aA (by simp; omega), Int.toNat_natCast]
theorem zJx {bs : List UInt8} {i : Nat} (h : i < bs.length) : rA (bs.take (i + 1)) = rA (bs.take i) ++ [hexDigit (bs[i].toNat / 16), hexDigit (bs[i].toNat % 16)] := by
 have e : bs.take (i + 1) = bs.take i ++ [bs[i]] := by rw [List.take_add_one, List.getElem?_eq_getElem h]; rfl
 rw [e]; unfold rA; rw [List.flatMap_append]; rfl
theorem uU (bs : List UInt8) : (aR bs).length = bs.length := by simp [aR]
theorem zCf {bs : List UInt8} {i : Nat} (h : i < bs.length) (d : Int) : bB d (aR bs) (i : Int) = (bs[i].toNat : Int) := by
 rw [iX (by rw [uU]; exact h)]; simp [aR]
theorem zMz {g0 : List Nd × Int × Int × List (List UInt8) × Unit -> Option (List UInt8)} {k : Int} {tl : List Nd} {t15 t16 : Int} {row : List (List UInt8)} {bs : List UInt8} (hb : bs.length <= 256) : ∀ (c i m : Nat), i + c = bs.length -> c < m ->
  fix (uD n g0) m (k, [91] ++ rA (bs.take i), tl, t15, t16, aR bs, ((aR bs).length : Int), (i : Int), row, ()) =
   (chk ((decide (0 <= k) && decide (k <= (row.length : Int)))) (
    chk ((Nat.ble (k.toNat) row.length && Nat.ble (((k.toNat) + 1) * 16) room)) (
     g0 (tl, t15, IntKind.wrap .i64 (t16 + 1), row.take (k.toNat) ++ [[91] ++ rA bs ++ [93]], ())))) := by
 intro c
 induction c with
 | zero =>
  intro i m hi hm
  rw [cK hm, uD]
  simp only
  rw [aB (by rw [uU]; simp; omega), List.take_of_length_le (by omega), aA (by have := Qi bs; simp [aJ]; omega)]
  rfl
 | succ c ih =>
  intro i m hi hm
  have hil : i < bs.length := by omega
  have hc := bs[i].toNat_lt
  rw [cK (by omega), uD]
  simp only
  rw [aF (by rw [uU]; simp; omega), aA (jP (by rw [uU]; exact hil)), zCf hil, aA (by decide), IntWalk.u64_in (bs[i].toNat : Int) (by omega)]
  rw [show Int.tdiv (bs[i].toNat : Int) 16 = ((bs[i].toNat / 16 : Nat) : Int) from (Int.ofNat_tdiv _ 16).symm, show Int.tmod (bs[i].toNat : Int) 16 = ((bs[i].toNat % 16 : Nat) : Int) from (Int.ofNat_tmod _ 16).symm]
  rw [IntWalk.u64_in _ (by omega), zOi (by omega), aH, aA (by decide), zOi (by omega), aH]
  have hlen := Qi (bs.take i)
  have htl : (bs.take i).length = i := by rw [List.length_take]; omega
  rw [aA (by simp [aJ]), aA (by simp [aJ]; omega), bT (by omega) (by omega), show (i : Int) + 1 = ((i + 1 : Nat) : Int) by omega]
  have := ih (i + 1) (m - 1) (by omega) (by omega)
  rw [zJx hil] at this
  simpa using this
def Hf (v : NV) (y : List UInt8) : List UInt8 :=
 match v with
 | .empty => [101]
 | .bytes p => [91] ++ rA (aY p) ++ [93]
 | .bol => [94]
 | .eol => [36]
 | .cat _ _ => [38] ++ y
 | .alt _ _ => [124] ++ y
 | .times _ lo hi => [42] ++ dG lo ++ [44] ++ dG hi ++ [59] ++ y
 | .group _ _ => [40] ++ y ++ [41]
 | .ref m => [92] ++ dG (m : Int)
def NV.Tf : NV -> Bool
 | .times _ lo hi => decide (-1 <= lo) && decide (lo < 1000000) && (decide (-1 <= hi) && decide (hi < 1000000))
 | .ref m => decide (m < 1000000)
 | _ => true
theorem join_eq {xs : List (List UInt8)} (h : xs.length <= 2) (hl : xs.flatten.length < 1000000) : strings_Join n (xs, []) = some xs.flatten := by
 match xs, h with
 | [], _ => rfl
 | [x], _ =>
  simp only [List.flatten_cons, List.flatten_nil, List.append_nil] at hl ⊢
  unfold strings_Join
  rw [aA (by simp [tT, room]; omega)]; rfl
 | [x, y], _ =>
  simp only [List.flatten_cons, List.flatten_nil, List.append_nil] at hl ⊢
  rw [List.length_append] at hl
  unfold strings_Join
  rw [aA (by simp [tT, room]; omega)]; simp [tT]
theorem Xk {g : List Nd × Int × Int × List (List UInt8) × Unit -> Option (List UInt8)} {i : Nat} {v : NV} {pre xs : List (List UInt8)} (hn : 300 <= n) (hl : l.length < 1000000) (hv : l[i]? = some v.node) (hx : xs.length = v.parts) (hp : pre.length < 1000000) (hj : xs.flatten.length < 1000000) (Vl : v.Tf = true) :
    fB n g (l, (l.length : Int), (i : Int), pre ++ xs, ()) = g (l, (l.length : Int), ((i + 1 : Nat) : Int), pre ++ [Hf v xs.flatten], ()) := by
  have hi : i < l.length := (List.getElem?_eq_some_iff.1 hv).1
  have hx2 : xs.length <= 2 := by rw [hx]; cases v <;> simp [NV.parts]
  have hget : ∀ d, bB d l (i : Int) = v.node := by
    intro d
    rw [iX hi]
    rw [List.getElem?_eq_getElem hi] at hv
    exact Option.some.inj hv
  unfold fB
  simp only
  rw [aF (by simp; omega), aA (jP hi), hget, parts_eq, aH]
  have zUa : IntKind.wrap .i64 (((pre ++ xs).length : Int) - (v.parts : Int)) = (pre.length : Int) := by
    rw [List.length_append, hx, bT (by omega) (by omega)]; omega
  rw [zUa, aA (by simp; omega), Int.toNat_natCast]
  have hdrop : ((pre ++ xs).drop (0 + pre.length)).take ((pre ++ xs).length - pre.length) = xs := by
    rw [Nat.zero_add, List.drop_left, List.take_of_length_le (by simp)]
  rw [aA (by simp), hdrop, join_eq hx2 hj, aH]
  have hput : ∀ y : List UInt8, chk ((decide ((0 : Int) <= (pre.length : Int)) && decide ((pre.length : Int) <= ((pre ++ xs).length : Int)))) (
        chk ((Nat.ble pre.length (pre ++ xs).length && Nat.ble ((pre.length + ([y] : List (List UInt8)).length) * 16) room)) (
          g (l, (l.length : Int), IntKind.wrap .i64 ((i : Int) + 1), (pre ++ xs).take pre.length ++ [y], ()))) = g (l, (l.length : Int), ((i + 1 : Nat) : Int), pre ++ [y], ()) := by
    intro y
    rw [aA (by simp; omega), aA (by simp [room]; omega), bT (by omega) (by omega), List.take_left]; rfl
  cases v with
  | empty => rw [aF (by rfl)]; exact hput [101]
  | bytes p =>
    simp only [NV.node, NV.parts, List.length_eq_zero_iff] at hx ⊢
    subst hx
    rw [aB (by rfl), aF (by rfl), Lx, aH]
    have hb := Gw p
    rw [aA (by simp [room]; omega)]
    have := zMz (n := n) (g0 := g) (k := (pre.length : Int)) (tl := l) (t15 := (l.length : Int)) (t16 := (i : Int)) (row := pre ++ []) (bs := aY p) hb (aY p).length 0 n (by omega) (by omega)
    simp only [List.take_zero, rA, List.flatMap_nil, List.append_nil, Int.toNat_natCast] at this hput ⊢
    rw [show ((0 : Nat) : Int) = 0 from rfl] at this
    rw [this]
    exact hput _
  | bol => rw [aB (by rfl), aB (by rfl), aF (by rfl)]; exact hput [94]
  | eol => rw [aB (by rfl), aB (by rfl), aB (by rfl), aF (by rfl)]; exact hput [36]
  | cat a b =>
    rw [aB (by rfl), aB (by rfl), aB (by rfl), aB (by rfl), aF (by rfl), aA (by simp [aJ]; simp at hj; omega)]
    exact hput _
  | alt a b =>
    rw [aB (by rfl), aB (by rfl), aB (by rfl), aB (by rfl), aB (by rfl), aF (by rfl), aA (by simp [aJ]; simp at hj; omega)]
    exact hput _
  | times a lo hi =>
    simp only [NV.Tf, Bool.and_eq_true, decide_eq_true_eq] at Vl
    have h1 := @kG lo
    have h2 := @kG hi
    simp only [NV.node]
    rw [aB (by rfl), aB (by rfl), aB (by rfl), aB (by rfl), aB (by rfl), aB (by rfl), aF (by rfl), Ak Vl.1.1 Vl.1.2, aH, aA (by simp [aJ]; omega), aA (by simp [aJ]; omega), Ak Vl.2.1 Vl.2.2, aH, aA (by simp [aJ]; omega), aA (by simp [aJ]; omega), aA (by simp [aJ]; simp at hj; omega)]
    exact hput _
  | group a m =>
    rw [aB (by rfl), aB (by rfl), aB (by rfl), aB (by rfl), aB (by rfl), aB (by rfl), aB (by rfl), aF (by rfl), aA (by simp [aJ]; simp at hj; omega), aA (by simp [aJ]; simp at hj; omega)]
    exact hput _
  | ref m =>
    simp only [NV.Tf, decide_eq_true_eq] at Vl
    have h1 := @kG (m : Int)
    simp only [NV.node]
    rw [aB (by rfl), aB (by rfl), aB (by rfl), aB (by rfl), aB (by rfl), aB (by rfl), aB (by rfl), aB (by rfl), aF (by rfl), Ak (by omega) (by omega), aH, aA (by simp [aJ]; omega)]
    exact hput _
theorem zCg (t : Pt) (o : Nat) (h : bY t = true) : (t.nv o).Tf = true := by
 cases t <;> simp only [Pt.nv, NV.Tf]
 case times a lo hi =>
  simp only [bY, iT, Bool.and_eq_true, Bool.or_eq_true, decide_eq_true_eq] at h
  simp only [Bool.and_eq_true, decide_eq_true_eq]
  omega
 case ref m =>
  simp only [bY, Bool.and_eq_true, decide_eq_true_eq] at h
  simp only [decide_eq_true_eq]; omega
theorem zJy (hn : 300 <= n) (hl : l.length < 1000) : ∀ (t : Pt) (o m : Nat) (row : List (List UInt8)), At l o t -> bY t = true -> t.sz < m -> row.length <= o ->
  fix (fB n) m (l, (l.length : Int), (o : Int), row, ()) = fix (fB n) (m - t.sz) (l, (l.length : Int), ((o + t.sz : Nat) : Int), row ++ [bR t], ()) := by
 have leaf : ∀ (t : Pt), t.sz = 1 -> (∀ o, (t.nv o).parts = 0) -> (∀ o, Hf (t.nv o) [] = bR t) -> ∀ (o m : Nat) (row : List (List UInt8)), At l o t -> bY t = true -> t.sz < m -> row.length <= o ->
   fix (fB n) m (l, (l.length : Int), (o : Int), row, ()) = fix (fB n) (m - t.sz) (l, (l.length : Int), ((o + t.sz : Nat) : Int), row ++ [bR t], ()) := by
  intro t h1 h2 h3 o m row h hf hm hr
  have hlen := h.len
  have hnd := h.node
  rw [h1] at hnd hm hlen ⊢
  rw [Nat.add_sub_cancel] at hnd
  rw [cK (by omega)]
  have := Xk (n := n) (g := fix (fB n) (m - 1)) (pre := row) (xs := []) hn (by omega) hnd (by rw [h2]; rfl) (by omega) (by simp) (zCg t o hf)
  rw [List.append_nil] at this
  rw [this, List.flatten_nil, h3]
 have fin : ∀ (t : Pt) (o m k : Nat) (row xs : List (List UInt8)), At l o t -> bY t = true -> k + 1 = t.sz -> t.sz < m -> row.length <= o -> xs.length = (t.nv o).parts -> xs.flatten.length < 1000000 -> Hf (t.nv o) xs.flatten = bR t ->
   fix (fB n) (m - k) (l, (l.length : Int), ((o + k : Nat) : Int), row ++ xs, ()) = fix (fB n) (m - t.sz) (l, (l.length : Int), ((o + t.sz : Nat) : Int), row ++ [bR t], ()) := by
  intro t o m k row xs h hf hk hm hr hx hj ht
  have hlen := h.len
  have hnd := h.node
  rw [show o + t.sz - 1 = o + k by omega] at hnd
  rw [cK (by omega), Xk (n := n) hn (by omega) hnd hx (by omega) hj (zCg t o hf), ht]
  rw [show m - k - 1 = m - t.sz by omega, show o + k + 1 = o + t.sz by omega]
 intro t
 induction t with
 | empty => exact leaf .empty rfl (fun _ => rfl) (fun _ => rfl)
 | bytes p => exact leaf (.bytes p) rfl (fun _ => rfl) (fun _ => rfl)
 | bol => exact leaf .bol rfl (fun _ => rfl) (fun _ => rfl)
 | eol => exact leaf .eol rfl (fun _ => rfl) (fun _ => rfl)
 | ref k => exact leaf (.ref k) rfl (fun _ => rfl) (fun _ => rfl)
 | cat a b iha ihb =>
  intro o m row h hf hm hr
  have hlen := h.len
  have hfa := hf
  simp only [bY, Bool.and_eq_true] at hfa
  have hsz : (Pt.cat a b).sz = a.sz + b.sz + 1 := rfl
  have la := iZ a
  have lb := iZ b
  have pa := a.eB
  have pb := b.eB
  rw [iha o m row h.Vh.1 hfa.1 (by omega) hr, ihb (o + a.sz) (m - a.sz) (row ++ [bR a]) h.Vh.2 hfa.2 (by omega) (by simp; omega)]
  have := fin (.cat a b) o m (a.sz + b.sz) row [bR a, bR b] h hf (by omega) hm hr rfl (by simp; omega) (by simp [Pt.nv, Hf, bR])
  rw [<- this, List.append_assoc, Nat.sub_sub, Nat.add_assoc]; rfl
 | alt a b iha ihb =>
  intro o m row h hf hm hr
  have hlen := h.len
  have hfa := hf
  simp only [bY, Bool.and_eq_true] at hfa
  have hsz : (Pt.alt a b).sz = a.sz + b.sz + 1 := rfl
  have la := iZ a
  have lb := iZ b
  have pa := a.eB
  have pb := b.eB
  rw [iha o m row h.alt1.1 hfa.1 (by omega) hr, ihb (o + a.sz) (m - a.sz) (row ++ [bR a]) h.alt1.2 hfa.2 (by omega) (by simp; omega)]
  have := fin (.alt a b) o m (a.sz + b.sz) row [bR a, bR b] h hf (by omega) hm hr rfl (by simp; omega) (by simp [Pt.nv, Hf, bR])
  rw [<- this, List.append_assoc, Nat.sub_sub, Nat.add_assoc]; rfl
 | times a lo hi iha =>
  intro o m row h hf hm hr
  have hlen := h.len
  have hfa := hf
  simp only [bY, Bool.and_eq_true] at hfa
  have hsz : (Pt.times a lo hi).sz = a.sz + 1 := rfl
  have la := iZ a
  rw [iha o m row h.zBt hfa.1 (by omega) hr]
  exact fin (.times a lo hi) o m a.sz row [bR a] h hf (by omega) hm hr rfl (by simp; omega) (by simp [Pt.nv, Hf, bR])
 | group a k iha =>
  intro o m row h hf hm hr
  have hlen := h.len
  have hfa := hf
  simp only [bY, Bool.and_eq_true] at hfa
  have hsz : (Pt.group a k).sz = a.sz + 1 := rfl
  have la := iZ a
  rw [iha o m row h.zBu hfa.1 (by omega) hr]
  exact fin (.group a k) o m a.sz row [bR a] h hf (by omega) hm hr rfl (by simp; omega) (by simp [Pt.nv, Hf, bR])
theorem vY {t : Pt} (hn : 300 <= n) (h : uH t) : rQ n (t.enc 0) = some (bR t) := by
 unfold rQ
 simp only
 rw [zEz (by omega) h]
 simp only [aH, Bool.not_true, aZ]
 have hsz := h.1
 have hlen := t.bL 0
 have := zJy (n := n) (l := t.enc 0) hn (by omega) t 0 n [] (At.self t) h.2.1.1 (by omega) (by simp)
 rw [show ((0 : Nat) : Int) = 0 from rfl] at this
 rw [this, cK (by omega), fB]
 simp only
 rw [aB (by rw [hlen]; simp), aA (by simp [inB]), aA (by simp)]
 rfl
end
end Go.Dec
namespace Go.Dec
section
variable {n : Nat} {w : List Int} {a b lo hi m : Int} {u : Unit}
end
end Go.Dec
namespace Go.Dec
section
variable {l : List Nd}
theorem At.take {o : Nat} {t : Pt} (h : At l o t) : l.take (o + t.sz) = l.take o ++ t.enc o := by
 obtain ⟨pre, post, rfl, hp⟩ := h
 subst hp
 have h1 : (pre ++ t.enc pre.length ++ post).take (pre.length + t.sz) = pre ++ t.enc pre.length := by
  rw [List.take_append_of_le_length (by rw [List.length_append, Pt.bL]; exact Nat.le_refl _), List.take_of_length_le (by rw [List.length_append, Pt.bL]; exact Nat.le_refl _)]
 rw [h1, List.append_assoc, List.take_left]
end
end Go.Dec
namespace Go.Dec
end Go.Dec
namespace Go.Dec
def eG : List UInt8 := [93, 91, 92, 94, 45, 10]
def kH : List UInt8 := [46, 91, 92, 42, 94, 36]
def Aa (c : UInt8) : List UInt8 := bif c == 10 then [92, 110] else bif kH.contains c then [92, c] else [c]
def gM : List UInt8 -> List (List UInt8)
 | [] => []
 | c :: r => match gM r with
  | (d :: x) :: rest => bif d == c + 1 then (c :: d :: x) :: rest else [c] :: (d :: x) :: rest
  | rest => [c] :: rest
def oO (r : List UInt8) : List UInt8 := bif decide (r.length > 2) then r.take 1 ++ [45] ++ r.drop (r.length - 1) else r
theorem Dv (c : UInt8) (r : List UInt8) : ∃ x rest, gM (c :: r) = (c :: x) :: rest := by
 unfold gM
 split
 ·rename_i d x rest h
  cases d == c + 1
  ·exact ⟨_, _, rfl⟩
  ·exact ⟨_, _, rfl⟩
 ·exact ⟨_, _, rfl⟩
def Yw (out : List (List UInt8)) (b : Bool) (c : UInt8) : List (List UInt8) :=
 bif b then out.set (out.length - 1) (out.getD (out.length - 1) [] ++ [c]) else out ++ [[c]]
theorem Tg : ∀ (s : List UInt8) (l c : UInt8), gM (s ++ [l, c]) = Yw (gM (s ++ [l])) (c == l + 1) c
 | [], l, c => by
  simp only [List.nil_append, gM, Yw]
  cases c == l + 1 <;> rfl
 | a :: s, l, c => by
  have ih := Tg s l c
  simp only [List.cons_append] at ih ⊢
  obtain ⟨h, t, hs⟩ : ∃ h t, s ++ [l] = h :: t := by cases s with
   | nil => exact ⟨_, _, rfl⟩
   | cons h t => exact ⟨_, _, rfl⟩
  have hs2 : s ++ [l, c] = h :: (t ++ [c]) := by rw [show [l, c] = [l] ++ [c] from rfl, <- List.append_assoc, hs]; rfl
  obtain ⟨x, rest, e1⟩ := Dv h t
  rw [hs2, hs] at ih ⊢
  rw [e1] at ih
  have hcc : ∀ r, gM (a :: r) = (match gM r with
    | (d :: x) :: rest => bif d == a + 1 then (a :: d :: x) :: rest else [a] :: (d :: x) :: rest
    | rest => [a] :: rest) := fun _ => rfl
  rw [hcc, hcc, e1, ih]
  unfold Yw
  cases hb : c == l + 1
  ·simp only [cond_false, List.cons_append]
   cases h == a + 1 <;> simp
  ·simp only [cond_true]
   cases rest with
   | nil =>
    simp only [List.length_cons, List.length_nil, Nat.zero_add, Nat.sub_self, List.set_cons_zero, List.getD_cons_zero, List.cons_append]
    cases h == a + 1 <;> simp
   | cons r1 rest =>
    simp only [List.length_cons, Nat.add_sub_cancel, List.set_cons_succ, List.getD_cons_succ]
    cases h == a + 1 <;> simp
section
variable {n : Nat}
theorem Xl {s : List UInt8} : ∀ {s : List UInt8}, (gM s).length <= s.length := by
 intro s
 induction s with
 | nil => exact Nat.le_refl _
 | cons c r ih =>
  unfold gM
  split
  ·rename_i d x rest h
   rw [h] at ih
   simp only [List.length_cons] at ih ⊢
   cases d == c + 1 <;> simp <;> omega
  ·simp only [List.length_cons]; omega
theorem Ab : ∀ s : List UInt8, (gM s).flatten = s
 | [] => rfl
 | c :: r => by
  have ih := Ab r
  unfold gM
  split
  ·rename_i d x rest h
   rw [h] at ih
   simp only [List.flatten_cons, List.cons_append] at ih
   cases d == c + 1
   ·simp [<- ih]
   ·simp [<- ih]
  ·simp only [List.flatten_cons, List.singleton_append]; rw [ih]
theorem zJz {s r : List UInt8} (h : r ∈ gM s) : r.length <= s.length := by
 have h2 := Ab s
 have : ∀ (l : List (List UInt8)), r ∈ l -> r.length <= l.flatten.length := by
  intro l
  induction l with
  | nil => intro h; simp at h
  | cons a l ih =>
   intro h
   simp only [List.flatten_cons, List.length_append]
   rcases List.mem_cons.1 h with rfl | h
   ·omega
   ·have := ih h; omega
 have := this _ h
 rw [h2] at this; exact this
theorem zPp {s : List UInt8} (hs : s.length < n) (hs2 : s.length < 100000) (hasc : ∀ i, i + 1 < s.length -> (s.getD i 0).toNat + 1 < 256) : Ay n s = some (gM s) := by
 unfold Ay
 simp only
 have hlen : ∀ r : List UInt8, (gM r).length <= r.length := fun r => Xl (s := [])
 have key : ∀ k i m, i + k = s.length -> k < m -> fix (rO n) m (s, (s.length : Int), (i : Int), gM (s.take i), ()) = some (gM s) := by
  intro k
  induction k with
  | zero =>
   intro i m hi hm
   rw [cK hm, rO]
   simp only
   rw [aB (by simp; omega), List.take_of_length_le (by omega)]
  | succ k ih =>
   intro i m hi hm
   have hil : i < s.length := by omega
   have hit : s.take (i + 1) = s.take i ++ [s[i]] := by rw [List.take_add_one, List.getElem?_eq_getElem hil]; rfl
   have hi1 : IntKind.wrap .i64 ((i : Int) + 1) = ((i + 1 : Nat) : Int) := by rw [bT (by omega) (by omega)]; rfl
   have hcut : (s.take (i + 1)).drop i = [s[i]] := by
    rw [hit, List.drop_append_of_le_length (by rw [List.length_take]; omega), List.drop_of_length_le (by rw [List.length_take]; omega)]; rfl
   have hrl := hlen (s.take i)
   have htl : (s.take i).length = i := by rw [List.length_take]; omega
   rw [htl] at hrl
   have ih := ih (i + 1) (m - 1) (by omega) (by omega)
   rw [hit] at ih
   rw [cK (by omega), rO]
   simp only
   rw [aF (by simp; omega), hi1]
   cases i with
   | zero =>
    simp only [List.take_zero, gM, List.nil_append] at ih ⊢
    rw [aB (by rfl), aA (by simp; omega), Int.toNat_natCast, Int.toNat_natCast, hcut, aA (by simp [room])]
    exact ih
   | succ j =>
    have hjl : j < s.length := by omega
    have hjt : s.take (j + 1) = s.take j ++ [s[j]] := by rw [List.take_add_one, List.getElem?_eq_getElem hjl]; rfl
    rw [hjt] at ih hrl ⊢
    rw [List.append_assoc, List.singleton_append, Tg] at ih
    obtain ⟨x, rest, e1⟩ : ∃ x rest, gM (s.take j ++ [s[j]]) = x :: rest := by
     obtain ⟨a, b, hh⟩ := List.exists_cons_of_ne_nil (show s.take j ++ [s[j]] ≠ [] from fun h => by have := congrArg List.length h; rw [List.length_append, List.length_cons] at this; simp only [List.length_nil] at this; omega)
     rw [hh]
     obtain ⟨x, rest, h⟩ := Dv a b
     exact ⟨_, _, h⟩
    generalize hR : gM (s.take j ++ [s[j]]) = R at *
    have hRp : 1 <= R.length := by rw [e1]; simp
    have hv7 : IntKind.wrap .i64 ((R.length : Int) - 1) = ((R.length - 1 : Nat) : Int) := by rw [bT (by omega) (by omega)]; omega
    have hj1 : IntKind.wrap .i64 (((j + 1 : Nat) : Int) - 1) = (j : Int) := by rw [bT (by omega) (by omega)]; omega
    have hb := hasc j (by omega)
    rw [List.getD_eq_getElem?_getD, List.getElem?_eq_getElem hjl] at hb
    simp only [Option.getD_some] at hb
    have hw : IntKind.wrap .u8 ((s[j].toNat : Int) + 1) = ((s[j].toNat + 1 : Nat) : Int) := by rw [IntWalk.u8_in _ (by omega)]; rfl
    rw [hv7, aF (by simp), aA (jP hil), iX hil, hj1, aA (jP hjl), iX hjl, hw]
    have he : ((s[j + 1].toNat : Int) == ((s[j].toNat + 1 : Nat) : Int)) = (s[j + 1] == s[j] + 1) := by
     rw [Bool.eq_iff_iff, beq_iff_eq, beq_iff_eq, <- UInt8.toNat_inj, UInt8.toNat_add]
     have : (1 : UInt8).toNat = 1 := rfl
     rw [this, Nat.mod_eq_of_lt hb]; omega
    rw [he]
    unfold Yw at ih
    cases hc : s[j + 1] == s[j] + 1
    ·rw [hc] at ih
     simp only [cond_false] at ih
     rw [aZ, aA (by simp; omega), Int.toNat_natCast, Int.toNat_natCast, hcut, aA (by simp [room]; omega)]
     exact ih
    ·rw [hc] at ih
     simp only [cond_true] at ih
     rw [bM, aA (by rw [jP (by omega)]; simp), Int.toNat_natCast, Nat.zero_add, aA (by simp; omega), show Ty.dflt .str = ([] : List UInt8) from rfl, aA (by simp; omega), Int.toNat_natCast, Int.toNat_natCast, hcut]
     have hRl : (R.getD (R.length - 1) []).length <= s.length := by
      rw [List.getD_eq_getElem?_getD, List.getElem?_eq_getElem (by omega)]
      simp only [Option.getD_some]
      have := zJz (s := s.take j ++ [s[j]]) (r := R[R.length - 1]) (by rw [hR]; exact List.getElem_mem _)
      rw [<- hjt, htl] at this; omega
     rw [aA (by exact decide_eq_true (by simp only [aJ, List.length_cons, List.length_nil]; omega)), aA (by rw [jP (by omega)]; simp), aA (by simp; omega)]
     exact ih
 exact key s.length 0 n (by omega) (by omega)
end
def sP (q : Nat -> Bool) : Nat -> Nat -> Nat
 | 0, k => k
 | f + 1, k => bif decide (k + 1 < 256) && q (k + 1) then sP q f (k + 1) else k
def dH (q : Nat -> Bool) : Nat -> Nat -> List UInt8
 | 0, _ => []
 | f + 1, i => if i < 256 then (bif q i then (bif decide (i + 2 <= sP q 256 i) then [UInt8.ofNat i, 45, UInt8.ofNat (sP q 256 i)] ++ dH q f (sP q 256 i + 1) else [UInt8.ofNat i] ++ dH q f (i + 1)) else dH q f (i + 1)) else []
theorem Ma (q : Nat -> Bool) : ∀ (f k : Nat), k < 256 -> 256 - k <= f -> k <= sP q f k ∧ sP q f k < 256 ∧ (∀ j, k < j -> j <= sP q f k -> q j = true) ∧ (sP q f k + 1 = 256 ∨ q (sP q f k + 1) = false)
 | 0, k, h1, h2 => by omega
 | f + 1, k, h1, h2 => by
  unfold sP
  cases hc : decide (k + 1 < 256) && q (k + 1)
  ·simp only [cond_false]
   refine ⟨Nat.le_refl _, h1, fun j a b => by omega, ?_⟩
   simp only [Bool.and_eq_false_iff, decide_eq_false_iff_not] at hc
   rcases hc with hc | hc
   ·left; omega
   ·right; exact hc
  ·simp only [cond_true]
   simp only [Bool.and_eq_true, decide_eq_true_eq] at hc
   obtain ⟨a1, a2, a3, a4⟩ := Ma q f (k + 1) hc.1 (by omega)
   refine ⟨by omega, a2, fun j b c => ?_, a4⟩
   by_cases hj : j = k + 1
   ·rw [hj]; exact hc.2
   ·exact a3 j (by omega) c
def kY (i m : Nat) : List UInt8 := (List.range' i m).map UInt8.ofNat
def fT (q : Nat -> Bool) (i : Nat) : List UInt8 := ((List.range' i (256 - i)).filter q).map UInt8.ofNat
theorem ofNat_succ {i : Nat} : UInt8.ofNat i + 1 = UInt8.ofNat (i + 1) := by
 rw [<- UInt8.toNat_inj, UInt8.toNat_add]; simp
theorem zCh (rest : List UInt8) : ∀ (m i : Nat), (∀ d r, rest = d :: r -> (d == UInt8.ofNat (i + m + 1)) = false) -> gM (kY i (m + 1) ++ rest) = kY i (m + 1) :: gM rest
 | 0, i, h => by
  have e : kY i 1 = [UInt8.ofNat i] := rfl
  rw [Nat.zero_add, e, List.singleton_append]
  cases rest with
  | nil => rfl
  | cons d r =>
   obtain ⟨x, rest, e1⟩ := Dv d r
   have hd := h d r rfl
   rw [Nat.add_zero, <- ofNat_succ] at hd
   rw [gM, e1]
   simp only [hd, cond_false]
 | m + 1, i, h => by
  have e : ∀ m, kY i (m + 1) = UInt8.ofNat i :: kY (i + 1) m := fun m => by simp [kY, List.range'_succ]
  have ih := zCh rest m (i + 1) (fun d r hr => by have := h d r hr; rw [show i + 1 + m + 1 = i + (m + 1) + 1 by omega]; exact this)
  have e2 : kY (i + 1) (m + 1) = UInt8.ofNat (i + 1) :: kY (i + 1 + 1) m := by simp [kY, List.range'_succ]
  rw [e (m + 1), List.cons_append, gM, ih, e2]
  simp only [ofNat_succ, beq_self_eq_true, cond_true]
theorem zNa {q : Nat -> Bool} {i : Nat} (hi : i < 256) (h : q i = false) : fT q i = fT q (i + 1) := by
 unfold fT
 rw [show 256 - i = (256 - (i + 1)) + 1 by omega, List.range'_succ, List.filter_cons_of_neg (by simp [h])]
theorem Xm {q : Nat -> Bool} : ∀ (m i : Nat), i + m <= 256 -> (∀ j, i <= j -> j < i + m -> q j = true) -> fT q i = kY i m ++ fT q (i + m)
 | 0, i, _, _ => by simp [kY]
 | m + 1, i, h1, h2 => by
  have ih := Xm m (i + 1) (by omega) (fun j a b => h2 j (by omega) (by omega))
  have e : fT q i = UInt8.ofNat i :: fT q (i + 1) := by
   unfold fT
   rw [show 256 - i = (256 - (i + 1)) + 1 by omega, List.range'_succ, List.filter_cons_of_pos (h2 i (by omega) (by omega)), List.map_cons]
  rw [e, ih, show i + (m + 1) = i + 1 + m by omega]
  simp [kY, List.range'_succ]
theorem zHo {q : Nat -> Bool} {i : Nat} {d : UInt8} {r : List UInt8} (h : fT q i = d :: r) : ∃ j, i <= j ∧ j < 256 ∧ d = UInt8.ofNat j ∧ q j = true := by
 have hm : d ∈ fT q i := by rw [h]; simp
 unfold fT at hm
 obtain ⟨j, hj, rfl⟩ := List.mem_map.1 hm
 obtain ⟨h1, h2⟩ := List.mem_filter.1 hj
 rw [List.mem_range'_1] at h1
 exact ⟨j, h1.1, by omega, rfl, h2⟩
theorem Hg (i m : Nat) : (kY i m).length = m := by simp [kY]
theorem zNb {i j : Nat} (hi : i < 256) (hj : j < 256) (h : i ≠ j) : (UInt8.ofNat i == UInt8.ofNat j) = false := by
 rw [Bool.eq_false_iff, ne_eq, beq_iff_eq, <- UInt8.toNat_inj, UInt8.toNat_ofNat', UInt8.toNat_ofNat']
 omega
theorem Xn (q : Nat -> Bool) : ∀ (n i f : Nat), 256 - i <= n -> 256 - i < f -> ((gM (fT q i)).map oO).flatten = dH q f i := by
 intro n
 induction n with
 | zero =>
  intro i f h hf
  obtain ⟨f, rfl⟩ : ∃ k, f = k + 1 := ⟨f - 1, by omega⟩
  have e : fT q i = [] := by unfold fT; rw [show 256 - i = 0 by omega]; rfl
  rw [e]; unfold dH; rw [if_neg (by omega)]; rfl
 | succ n ih =>
  intro i f h hf
  obtain ⟨f, rfl⟩ : ∃ k, f = k + 1 := ⟨f - 1, by omega⟩
  by_cases hi : i < 256
  case neg =>
   have e : fT q i = [] := by unfold fT; rw [show 256 - i = 0 by omega]; rfl
   rw [e]; unfold dH; rw [if_neg hi]; rfl
  unfold dH
  rw [if_pos hi]
  cases hq : q i
  ·simp only [cond_false]
   rw [zNa hi hq]
   exact ih (i + 1) f (by omega) (by omega)
  ·simp only [cond_true]
   obtain ⟨a1, a2, a3, a4⟩ := Ma q 256 i hi (by omega)
   generalize hk : sP q 256 i = k at *
   have hrest : ∀ (m : Nat), i + m = k -> ∀ d r, fT q (k + 1) = d :: r -> (d == UInt8.ofNat (i + m + 1)) = false := by
    intro m hm d r hr
    obtain ⟨j, b1, b2, rfl, b4⟩ := zHo hr
    rw [hm]
    refine zNb b2 (by omega) ?_
    intro hj
    subst hj
    rcases a4 with a4 | a4
    ·omega
    ·rw [a4] at b4; simp at b4
   have hF := Xm (q := q) (k - i + 1) i (by omega) (fun j c1 c2 => by
    by_cases hj : j = i
    ·rw [hj]; exact hq
    ·exact a3 j (by omega) (by omega))
   rw [show i + (k - i + 1) = k + 1 by omega] at hF
   have hR := zCh (fT q (k + 1)) (k - i) i (hrest (k - i) (by omega))
   rw [hF, hR, List.map_cons, List.flatten_cons, ih (k + 1) f (by omega) (by omega)]
   by_cases h2 : i + 2 <= k
   ·rw [decide_eq_true h2]
    simp only [cond_true]
    have hs : oO (kY i (k - i + 1)) = [UInt8.ofNat i, 45, UInt8.ofNat k] := by
     unfold oO
     rw [Hg, decide_eq_true (show k - i + 1 > 2 by omega)]
     simp only [cond_true, Nat.add_sub_cancel]
     have h1 : (kY i (k - i + 1)).take 1 = [UInt8.ofNat i] := by simp [kY, List.range'_succ]
     have h3 : (kY i (k - i + 1)).drop (k - i) = [UInt8.ofNat k] := by
      have : kY i (k - i + 1) = kY i (k - i) ++ [UInt8.ofNat k] := by
       unfold kY; rw [List.range'_concat, List.map_append, Nat.one_mul, show i + (k - i) = k by omega]; rfl
      rw [this, List.drop_append_of_le_length (by rw [Hg]; omega), List.drop_of_length_le (by rw [Hg]; omega)]; rfl
     rw [h1, h3]; rfl
    rw [hs]
   ·rw [decide_eq_false h2]
    simp only [cond_false]
    have hs : oO (kY i (k - i + 1)) = kY i (k - i + 1) := by
     unfold oO
     rw [Hg, decide_eq_false (show ¬ k - i + 1 > 2 by omega)]; rfl
    rw [hs]
    by_cases h0 : k = i
    ·subst h0
     rw [Nat.sub_self]; rfl
    ·have h1 : k = i + 1 := by omega
     subst h1
     rw [show i + 1 - i + 1 = 2 by omega, show kY i 2 = [UInt8.ofNat i, UInt8.ofNat (i + 1)] from rfl]
     obtain ⟨f, rfl⟩ : ∃ k, f = k + 1 := ⟨f - 1, by omega⟩
     have hq1 := a3 (i + 1) (by omega) (by omega)
     have hend : sP q 256 (i + 1) = i + 1 := by
      unfold sP
      rcases a4 with a4 | a4
      ·rw [show decide (i + 1 + 1 < 256) = false from decide_eq_false (by omega)]; rfl
      ·rw [a4, Bool.and_false]; rfl
     have hsc : dH q (f + 1) (i + 1) = [UInt8.ofNat (i + 1)] ++ dH q f (i + 1 + 1) := by
      rw [dH, if_pos (by omega), hq1, hend]
      simp only [cond_true]
      rw [decide_eq_false (by omega)]; rfl
     rw [hsc]
     have hfu : dH q (f + 1) (i + 1 + 1) = dH q f (i + 1 + 1) := by
      rw [<- ih (i + 1 + 1) (f + 1) (by omega) (by omega), <- ih (i + 1 + 1) f (by omega) (by omega)]
     rw [hfu]; rfl
end Go.Dec
namespace Go.Dec
theorem zKa : ((List.range 256).all fun i => decide (dD .u8 .and (i : Int) 63 = ((i % 64 : Nat) : Int))) = true := by decide +kernel
theorem zPq {x k : Nat} (hk : k < 64) : kR .u64 (x : Int) (k : Int) = ((x / 2 ^ k : Nat) : Int) := by
 unfold kR
 rw [Int.toNat_natCast, show IntKind.u64.bits = 64 from rfl, Nat.min_eq_left (show k <= 64 by omega)]
 rw [show ((2 : Int) ^ k) = ((2 ^ k : Nat) : Int) by simp]
 rw [Int.fdiv_eq_ediv_of_nonneg _ (Int.natCast_nonneg _)]
 exact (Int.natCast_ediv x (2 ^ k)).symm
theorem Ti {n : Nat} (p : Nat -> Bool) {c : Nat} (hc : c < 256) : pX n (wd p, (c : Int)) = some (p c) := by
 unfold pX
 simp only
 have h1 := zRm hc
 have h2 := oN zKa hc
 simp only [decide_eq_true_eq] at h2
 rw [aA (by decide), h1.1, aA (jP (i := c / 64) (n := 4) (by omega)), aA (by simp; omega), Int.toNat_natCast, h2, aA (by simp; omega)]
 have hk : c / 64 = 0 ∨ c / 64 = 1 ∨ c / 64 = 2 ∨ c / 64 = 3 := by omega
 have hg : (wd p).getD (c / 64) (Ty.dflt (.int .u64)) = ((zZ p (c / 64) : Nat) : Int) := by
  rcases hk with h | h | h | h <;> rw [h] <;> rfl
 rw [hg, zPq (by omega)]
 have hlt := nW p (c / 64)
 rw [show (1 : Int) = ((1 : Nat) : Int) from rfl, zTn (Nat.lt_of_le_of_lt (Nat.div_le_self _ _) hlt) (by omega)]
 have ht := xA p (c / 64) (c % 64)
 rw [decide_eq_true (show c % 64 < 64 by omega), Bool.true_and, show 64 * (c / 64) + c % 64 = c by omega] at ht
 rw [<- ht, Nat.testBit_eq_decide_div_mod_eq]
 congr 1
 rw [Nat.and_one_is_mod, Bool.eq_iff_iff, beq_iff_eq, decide_eq_true_eq]
 omega
def aS (p : Nat -> Bool) : Nat -> Bool := fun i => p i && !(eG.contains (UInt8.ofNat i))
def vZ (p : Nat -> Bool) : List UInt8 := (bif p 10 then [92, 110] else []) ++ ((bif p 91 then [91] else []) ++ ((bif p 92 then [92] else []) ++ ((bif p 94 then [94] else []) ++ ((bif p 45 then [45] else []) ++ [93]))))
def Yx (p : Nat -> Bool) : List UInt8 := [91] ++ (bif p 93 then [93] else [])
def xV (p : Nat -> Bool) : List UInt8 := Yx p ++ dH (aS p) 257 0 ++ vZ p
def nM (p : Nat -> Bool) : List UInt8 :=
 match aY p with
 | [] => []
 | [c] => Aa c
 | l => bif l.length == 256 then [46] else bif l == [45, 94] then [91, 45, 94, 93] else xV p
theorem zKb (l : List UInt8) : jF (aR l) = l := by
 simp [jF, aR, List.map_map, Function.comp_def]
theorem zKc : ((List.range 256).all fun i => decide (Go.Lib.indexByte eG (UInt8.ofNat i) < 0) == !(eG.contains (UInt8.ofNat i))) = true := by decide +kernel
theorem zCi : ((List.range 256).all fun i => decide (Go.Lib.indexByte kH (UInt8.ofNat i) ≥ 0) == kH.contains (UInt8.ofNat i)) = true := by decide +kernel
theorem apart_eq {n : Nat} {ρ : Type} (d : UInt8) (X Y : Option ρ) : (ob (strings_IndexByte n ([93, 91, 92, 94, 45, 10], (d.toNat : Int))) fun y => br (decide (y < 0)) X Y) = bif !(eG.contains d) then X else Y := by
 have := oN zKc d.toNat_lt
 rw [beq_iff_eq, He] at this
 unfold strings_IndexByte
 simp only [aH, Int.toNat_natCast]
 rw [show (d.toNat).toUInt8 = d from He d, <- zJr, <- this]; rfl
theorem zPr {n : Nat} (d : UInt8) : Aw n (d.toNat : Int) = some (Aa d) := by
 have := oN zCi d.toNat_lt
 rw [beq_iff_eq, He] at this
 unfold Aw Aa
 simp only
 have hb : jF [(d.toNat : Int)] = [d] := by simp [jF]
 rw [show ((d.toNat : Int) == 10) = (d == 10) by rw [Qf]; exact eqI 10]
 unfold strings_IndexByte
 simp only [aH, Int.toNat_natCast]
 rw [show (d.toNat).toUInt8 = d from He d, hb]
 cases d == 10
 ·simp only [aZ, cond_false]
  rw [show ([46, 91, 92, 42, 94, 36] : List UInt8) = kH from rfl, this, aA (by simp [aJ]), zJr]
  cases kH.contains d <;> rfl
 ·rfl
theorem zKd (r : List UInt8) : (oO r).length <= r.length := by
 unfold oO
 by_cases h : r.length > 2
 ·rw [decide_eq_true h]; simp; omega
 ·rw [decide_eq_false h]; exact Nat.le_refl _
theorem Hl : ∀ l : List (List UInt8), ((l.map oO).flatten).length <= l.flatten.length
 | [] => Nat.le_refl _
 | a :: l => by have := Hl l; have := zKd a; simp only [List.map_cons, List.flatten_cons, List.length_append]; omega
theorem zHp (p : Nat -> Bool) : (aY p).filter (fun c => !(eG.contains c)) = fT (aS p) 0 := by
 unfold aY fT aS
 rw [List.filter_map, List.filter_filter, <- List.range_eq_range']
 congr 1
 apply List.filter_congr
 intro i _
 simp only [Function.comp, Bool.and_comm]
theorem zKe (q : Nat -> Bool) : ∀ i, i + 1 < (fT q 0).length -> ((fT q 0).getD i 0).toNat + 1 < 256 := by
 intro i hi
 have hp : (List.range' 0 256).Pairwise (· < ·) := List.pairwise_lt_range'
 have hq : ((List.range' 0 256).filter q).Pairwise (· < ·) := hp.filter q
 rw [List.pairwise_iff_getElem] at hq
 unfold fT at hi ⊢
 rw [Nat.sub_zero] at hi ⊢
 rw [List.length_map] at hi
 have h := hq i (i + 1) (by omega) hi (by omega)
 have hm : ((List.range' 0 256).filter q)[i + 1] ∈ (List.range' 0 256).filter q := List.getElem_mem _
 have hm2 := (List.mem_filter.1 hm).1
 rw [List.mem_range'_1] at hm2
 rw [List.getD_eq_getElem?_getD, List.getElem?_map, List.getElem?_eq_getElem (by omega)]
 simp only [Option.map_some, Option.getD_some, UInt8.toNat_ofNat']
 omega
theorem Xo (q : Nat -> Bool) : (fT q 0).length <= 256 := by
 unfold fT
 rw [List.length_map]
 have := List.length_filter_le q (List.range' 0 256)
 simpa using this
section
variable {n : Nat}
theorem zHq {b : List UInt8} {p : Nat -> Bool} (hn : 10 <= n) (hb : b.length < 1000) : fix (lI n) n (b, (([[10], [91], [92], [94], [45]] : List (List UInt8)).length : Int), 0, wd p, [[10], [91], [92], [94], [45]], ()) = some (b ++ vZ p) := by
 obtain ⟨n, rfl⟩ : ∃ m, n = m + 6 := ⟨n - 6, by omega⟩
 have has : ∀ c : Nat, c < 256 -> pX (n + 6) (wd p, (c : Int)) = some (p c) := fun c hc => Ti p hc
 have h10 := has 10 (by omega)
 have h91 := has 91 (by omega)
 have h92 := has 92 (by omega)
 have h94 := has 94 (by omega)
 have h45 := has 45 (by omega)
 have step : ∀ (m : Nat) (b : List UInt8) (i : Nat) (c : UInt8), i < 5 -> b.length < 1010 -> ([[10], [91], [92], [94], [45]] : List (List UInt8)).getD i [] = [c] -> c.toNat < 256 ->
   fix (lI (n + 6)) (m + 1) (b, 5, (i : Int), wd p, [[10], [91], [92], [94], [45]], ()) = fix (lI (n + 6)) m (b ++ (bif p c.toNat then (bif c == 10 then [92, 110] else [c]) else []), 5, ((i + 1 : Nat) : Int), wd p, [[10], [91], [92], [94], [45]], ()) := by
  intro m b i c hi hb hc hc2
  rw [cK (by omega), lI]
  simp only
  rw [aF (by simp; omega), aA (by rw [jP (by exact hi)]; rfl), Int.toNat_natCast, Nat.zero_add, aA (by simp; omega), show Ty.dflt .str = ([] : List UInt8) from rfl, hc]
  rw [aA (by rfl), show bB 0 [c] 0 = c from rfl, has c.toNat hc2]
  simp only [aH, Nat.add_sub_cancel]
  rw [bT (by omega) (by omega), show (i : Int) + 1 = ((i + 1 : Nat) : Int) from rfl]
  rw [show ([c] == [10]) = (c == 10) by simp]
  cases hp : p c.toNat
  ·simp only [aZ, cond_false, List.append_nil]
   first | rfl | (rw [aA (by rfl)]; done) | (rw [aA (by rfl), show bB 0 [c] 0 = c from rfl, has c.toNat hc2, hp]; rfl)
  ·simp only [bM, cond_true]
   cases c == 10
   ·simp only [aZ, cond_false]
    rw [aA (by rfl), aA (by simp [aJ]; omega)]
   ·simp only [bM, cond_true]
    rw [aA (by simp [aJ]; omega)]
 have l1 : ∀ (x : Bool) (y : List UInt8), y.length <= 2 -> (bif x then y else []).length <= 2 := by intro x y h; cases x <;> simp [h]
 rw [show (([[10], [91], [92], [94], [45]] : List (List UInt8)).length : Int) = 5 from rfl, show (0 : Int) = ((0 : Nat) : Int) from rfl]
 have hlen : ∀ (b : List UInt8) (k : Nat) (c : UInt8), b.length < k -> (b ++ (bif p c.toNat then (bif c == 10 then [92, 110] else [c]) else [])).length < k + 2 := by
  intro b k c h
  rw [List.length_append]
  cases p c.toNat <;> cases c == 10 <;> simp <;> omega
 have b1 := hlen b 1000 10 hb
 have b2 := hlen _ 1002 91 b1
 have b3 := hlen _ 1004 92 b2
 have b4 := hlen _ 1006 94 b3
 have b5 := hlen _ 1008 45 b4
 rw [step (n + 5) b 0 10 (by omega) (by omega) rfl (by decide), step (n + 4) _ 1 91 (by omega) (by omega) rfl (by decide), step (n + 3) _ 2 92 (by omega) (by omega) rfl (by decide), step (n + 2) _ 3 94 (by omega) (by omega) rfl (by decide), step (n + 1) _ 4 45 (by omega) (by omega) rfl (by decide)]
 rw [cK (by omega), lI]
 simp only
 rw [aB (by rfl), aA (by exact decide_eq_true (Nat.le_trans (Nat.add_le_add_right (Nat.le_of_lt b5) _) (by decide)))]
 simp only [vZ, List.append_assoc]
 rfl
theorem zHr {b0 : List UInt8} {p : Nat -> Bool} {rs : List (List UInt8)} (hn : 400 <= n) (hb : b0.length <= 2) (hrs : rs.flatten.length <= 256) (hrl : rs.length <= 256) : fix (oJ n) n (b0, rs, (rs.length : Int), 0, wd p, ()) = some (b0 ++ (rs.map oO).flatten ++ vZ p) := by
 have hl : ∀ i, ((rs.take i).map oO).flatten.length <= 256 := by
  intro i
  have h1 := Hl (rs.take i)
  have h2 : (rs.take i).flatten.length <= rs.flatten.length := by
   have : rs.flatten = (rs.take i).flatten ++ (rs.drop i).flatten := by rw [<- List.flatten_append, List.take_append_drop]
   rw [this, List.length_append]; omega
  omega
 have key : ∀ k i m, i + k = rs.length -> k < m -> fix (oJ n) m (b0 ++ ((rs.take i).map oO).flatten, rs, (rs.length : Int), (i : Int), wd p, ()) = some (b0 ++ (rs.map oO).flatten ++ vZ p) := by
  intro k
  induction k with
  | zero =>
   intro i m hi hm
   have := hl rs.length
   rw [List.take_of_length_le (Nat.le_refl _)] at this
   rw [cK hm, oJ]
   simp only
   rw [aB (by simp; omega), List.take_of_length_le (by omega)]
   exact zHq (by omega) (by rw [List.length_append]; omega)
  | succ k ih =>
   intro i m hi hm
   have hil : i < rs.length := by omega
   have hli := hl i
   have Ho := hl (i + 1)
   have htk : rs.take (i + 1) = rs.take i ++ [rs[i]] := by rw [List.take_add_one, List.getElem?_eq_getElem hil]; rfl
   have ih := ih (i + 1) (m - 1) (by omega) (by omega)
   rw [htk, List.map_append, List.flatten_append] at ih Ho
   simp only [List.map_cons, List.map_nil, List.flatten_cons, List.flatten_nil, List.append_nil] at ih Ho
   rw [List.length_append] at Ho
   have hri : rs[i].length <= 256 := by
    have : ∀ (l : List (List UInt8)) (r : List UInt8), r ∈ l -> r.length <= l.flatten.length := by
     intro l r
     induction l with
     | nil => intro h; simp at h
     | cons a l ih =>
      intro h
      simp only [List.flatten_cons, List.length_append]
      rcases List.mem_cons.1 h with rfl | h
      ·omega
      ·have := ih h; omega
    have := this rs rs[i] (List.getElem_mem _)
    omega
   rw [cK (by omega), oJ]
   simp only
   rw [aF (by simp; omega), aA (jP hil), iX hil, bT (x := (i : Int) + 1) (by omega) (by omega), show (i : Int) + 1 = ((i + 1 : Nat) : Int) from rfl]
   unfold oO at ih Ho
   by_cases h2 : rs[i].length > 2
   ·rw [decide_eq_true h2] at ih Ho
    simp only [cond_true] at ih Ho
    rw [aF (by simp; omega), aA (by simp; omega), show (1 : Int).toNat = 1 from rfl, aA (by simp [aJ]; omega), bT (by omega) (by omega), aA (by simp; omega)]
    rw [show ((rs[i].length : Int) - 1).toNat = rs[i].length - 1 by omega]
    rw [aA (by simp [aJ]; omega), aA (by rw [List.length_append, List.length_append]; exact decide_eq_true (by simp only [aJ]; simp only [List.length_append] at Ho ⊢; omega))]
    rw [List.append_assoc b0]
    exact ih
   ·rw [decide_eq_false h2] at ih Ho
    simp only [cond_false] at ih Ho
    rw [aB (by simp; omega), aA (by rw [List.length_append]; exact decide_eq_true (by simp only [aJ]; omega))]
    rw [List.append_assoc b0]
    exact ih
 have := key rs.length 0 n (by omega) (by omega)
 simpa using this
theorem Tj {b0 : List UInt8} {p : Nat -> Bool} (hn : 400 <= n) (hb : b0.length <= 2) : lJ n (aY p, b0, wd p, ()) = some (b0 ++ dH (aS p) 257 0 ++ vZ p) := by
 unfold lJ
 simp only
 have hbl := Gw p
 rw [aA (by simp [room]; omega), uU]
 have hfin : ∀ g, oK n g (b0, aR (aY p), ((aY p).length : Int), ((aY p).length : Int), wd p, aR ((aY p).filter fun c => !(eG.contains c)), ()) = some (b0 ++ dH (aS p) 257 0 ++ vZ p) := by
  intro g
  unfold oK
  simp only
  have hfl := Xo (aS p)
  rw [aB (by simp), zKb, zHp, zPp (by omega) (by omega) (zKe _)]
  simp only [aH]
  have h1 := Ab (fT (aS p) 0)
  have h2 := @Xl [] (fT (aS p) 0)
  rw [zHr hn hb (by rw [h1]; omega) (by omega), Xn (aS p) 256 0 257 (by omega) (by omega)]
 have key : ∀ k i m, i + k = (aY p).length -> k < m -> fix (oK n) m (b0, aR (aY p), ((aY p).length : Int), (i : Int), wd p, aR (((aY p).take i).filter fun c => !(eG.contains c)), ()) = some (b0 ++ dH (aS p) 257 0 ++ vZ p) := by
  intro k
  induction k with
  | zero =>
   intro i m hi hm
   rw [cK hm, List.take_of_length_le (by omega), show i = (aY p).length by omega]
   exact hfin _
  | succ k ih =>
   intro i m hi hm
   have hil : i < (aY p).length := by omega
   have ih := ih (i + 1) (m - 1) (by omega) (by omega)
   have htk : (aY p).take (i + 1) = (aY p).take i ++ [(aY p)[i]] := by rw [List.take_add_one, List.getElem?_eq_getElem hil]; rfl
   rw [htk, List.filter_append] at ih
   rw [cK (by omega), oK]
   simp only
   rw [aF (by simp; omega), aA (jP (by rw [uU]; exact hil)), zCf hil, apart_eq, bT (by omega) (by omega), show (i : Int) + 1 = ((i + 1 : Nat) : Int) from rfl]
   have hfl : (((aY p).take i).filter fun c => !(eG.contains c)).length <= 256 := by
    have := List.length_filter_le (fun c => !(eG.contains c)) ((aY p).take i)
    rw [List.length_take] at this; omega
   cases hc : eG.contains (aY p)[i]
   ·simp only [Bool.not_false, cond_true]
    rw [List.filter_cons_of_pos (by show (!(eG.contains _)) = true; rw [hc]; rfl), List.filter_nil] at ih
    rw [aA (by rw [uU, Nat.ble_eq]; unfold room; simp only [List.length_cons, List.length_nil]; omega)]
    have e : ∀ (l : List UInt8) (c : UInt8), aR (l ++ [c]) = aR l ++ [(c.toNat : Int)] := fun l c => by simp [aR]
    rw [e] at ih
    exact ih
   ·simp only [Bool.not_true, cond_false]
    rw [List.filter_cons_of_neg (by show ¬ (!(eG.contains _)) = true; rw [hc]; simp), List.filter_nil, List.append_nil] at ih
    exact ih
 have := key (aY p).length 0 n (by omega) (by omega)
 simpa [aR] using this
theorem zDq {p : Nat -> Bool} (hn : 400 <= n) : Az n (wd p) = some (nM p) := by
 unfold Az
 simp only
 rw [Lx, aH]
 have h93 := Ti (n := n) p (c := 93) (by omega)
 have hj : (ob (pX n (wd p, 93)) fun y4 => br y4 (chk (decide ([91].length + ([93] : List UInt8).length <= aJ)) (jn (lJ n) (aY p, [91] ++ [93], wd p, ()))) (jn (lJ n) (aY p, [91], wd p, ()))) = some (xV p) := by
  rw [show (93 : Int) = ((93 : Nat) : Int) from rfl, h93, aH]
  unfold xV Yx
  cases p 93
  ·simp only [aZ, Du, cond_false, List.append_nil]
   exact Tj hn (by simp)
  ·simp only [bM, Du, cond_true]
   rw [aA (by decide)]
   exact Tj hn (by simp)
 rw [hj]
 unfold nM
 match aY p with
 | [] => rfl
 | [c] =>
  rw [aB (by rfl), aF (by rfl), aA (by rfl), show bB 0 [c] 0 = c from rfl, zPr]; rfl
 | a :: b :: l =>
  rw [aB (by simp; omega), aB (by simp; omega)]
  rw [show (((a :: b :: l).length : Int) == 256) = ((a :: b :: l).length == 256) by rw [Bool.eq_iff_iff, beq_iff_eq, beq_iff_eq]; omega]
  simp only
  cases ((a :: b :: l).length == 256)
  ·cases (a :: b :: l == [45, 94]) <;> rfl
  ·rfl
end
end Go.Dec
namespace Go.Dec
theorem wB {p : Nat -> Bool} {i : Nat} (hi : i < 256) : p i = true <-> UInt8.ofNat i ∈ aY p := by
 unfold aY
 constructor
 ·intro h
  exact List.mem_map.2 ⟨i, List.mem_filter.2 ⟨by simpa using hi, h⟩, rfl⟩
 ·intro h
  obtain ⟨j, hj, e⟩ := List.mem_map.1 h
  obtain ⟨h1, h2⟩ := List.mem_filter.1 hj
  have hj2 : j < 256 := by simpa using h1
  have e2 := congrArg UInt8.toNat e
  simp only [UInt8.toNat_ofNat'] at e2
  have : j = i := by omega
  rw [<- this]; exact h2
section
variable {n : Nat} {p : Nat -> Bool}
end
end Go.Dec
