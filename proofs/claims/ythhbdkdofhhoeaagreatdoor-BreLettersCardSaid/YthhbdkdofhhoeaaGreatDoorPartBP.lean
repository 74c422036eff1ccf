/- Part of a proof over this seat: a library of my own, and what it says of this seat. No statement is proved here. -/
import Derived.Test.YthhbdkdofhhoeaaGreatDoorPartBO
namespace Go.Dec
theorem zEj : ∀ k u, (Kw k u).length <= k := by
 intro k
 induction k with
 | zero => intro u; simp [Kw]
 | succ k ih => intro u; unfold Kw; split; simp; have := ih (u / 10); simp; omega
theorem Xx {n : Nat} {x : Int} (h1 : -1 <= x) (h2 : x < 1000000) : strconv_Itoa n x = some (nJ x) := by
 unfold strconv_Itoa
 rw [aC (by simp; omega)]
theorem xR {x : Int} : (nJ x).length <= 21 := by
 unfold nJ
 have := zEj 20 x.natAbs
 have := zEj 20 x.toNat
 split <;> simp <;> omega
theorem zOf (p : Nat -> Bool) (k : Nat) : Tq k (Aj p k) = ((List.range 64).filter fun j => p (64 * k + j)).map fun j => UInt8.ofNat (64 * k + j) := by
 unfold Tq
 congr 1
 apply List.filter_congr
 intro j hj
 rw [Ch]
 have : j < 64 := by simpa using hj
 simp [this]
theorem zJn (p : Nat -> Bool) (k : Nat) : (((List.range 64).map fun j => 64 * k + j).filter p).map UInt8.ofNat = ((List.range 64).filter fun j => p (64 * k + j)).map fun j => UInt8.ofNat (64 * k + j) := by
 rw [List.filter_map, List.map_map]; rfl
theorem zLo (p : Nat -> Bool) : kN (wd p) = mE p := by
 have e : List.range 256 = (List.range 64).map (fun j => 64 * 0 + j) ++ (List.range 64).map (fun j => 64 * 1 + j) ++ (List.range 64).map (fun j => 64 * 2 + j) ++ (List.range 64).map (fun j => 64 * 3 + j) := by decide +kernel
 unfold mE
 rw [e]
 simp only [List.filter_append, List.map_append, zJn]
 unfold kN wd
 simp only [zY, word, Int.toNat_natCast, zOf, List.append_nil, List.append_assoc]
theorem zEk {n : Nat} (p : Nat -> Bool) : rC n (wd p) = some (mE p) := by
 unfold rC
 have h : ∀ k, 0 <= word p k ∧ word p k < 18446744073709551616 := fun k => by have := qA p k; unfold word; omega
 rw [aC (by
  rw [Bool.and_eq_true, List.all_eq_true]
  refine ⟨rfl, fun w hw => ?_⟩
  have : w = word p 0 ∨ w = word p 1 ∨ w = word p 2 ∨ w = word p 3 := by simpa [wd] using hw
  rcases this with rfl | rfl | rfl | rfl <;> simp [h]), zLo]
def tJ (l : List UInt8) : List UInt8 := l.flatMap fun c => [hexDigit (c.toNat / 16), hexDigit (c.toNat % 16)]
def dQ : Pt -> List UInt8
 | .empty => [101]
 | .bytes p => [91] ++ tJ (mE p) ++ [93]
 | .bol => [94]
 | .eol => [36]
 | .cat a b => [38] ++ (dQ a ++ dQ b)
 | .alt a b => [124] ++ (dQ a ++ dQ b)
 | .times a lo hi => [42] ++ nJ lo ++ [44] ++ nJ hi ++ [59] ++ dQ a
 | .group a _ => [40] ++ dQ a ++ [41]
 | .ref m => [92] ++ nJ (m : Int)
theorem Sb (l : List UInt8) : (tJ l).length = 2 * l.length := by
 induction l with
 | nil => rfl
 | cons c l ih => simp only [tJ, List.flatMap_cons, List.length_append] at ih ⊢; rw [ih]; simp; omega
theorem jE : ∀ t : Pt, (dQ t).length <= 600 * t.sz
 | .empty | .bol | .eol => by simp [dQ, Pt.sz]
 | .bytes p => by have := Vi p; simp [dQ, Pt.sz, Sb]; omega
 | .cat a b => by have := jE a; have := jE b; simp [dQ, Pt.sz]; omega
 | .alt a b => by have := jE a; have := jE b; simp [dQ, Pt.sz]; omega
 | .times a lo hi => by have := jE a; have := @xR lo; have := @xR hi; simp [dQ, Pt.sz]; omega
 | .group a _ => by have := jE a; simp [dQ, Pt.sz]; omega
 | .ref m => by have := @xR (m : Int); simp [dQ, Pt.sz]; omega
section
variable {n : Nat} {l : List Nd}
theorem zPh {d : Nat} (hd : d < 16) : iD n ((d : Int), 16) = some [hexDigit d] := by
 unfold iD
 simp only
 rw [aC (by simp; omega), Int.toNat_natCast]
theorem zLp {bs : List UInt8} {i : Nat} (h : i < bs.length) : tJ (bs.take (i + 1)) = tJ (bs.take i) ++ [hexDigit (bs[i].toNat / 16), hexDigit (bs[i].toNat % 16)] := by
 have e : bs.take (i + 1) = bs.take i ++ [bs[i]] := by rw [List.take_add_one, List.getElem?_eq_getElem h]; rfl
 rw [e]; unfold tJ; rw [List.flatMap_append]; rfl
theorem Im (bs : List UInt8) : (bF bs).length = bs.length := by simp [bF]
theorem zOg {bs : List UInt8} {i : Nat} (h : i < bs.length) (d : Int) : aQ d (bF bs) (i : Int) = (bs[i].toNat : Int) := by
 rw [jC (by rw [Im]; exact h)]; simp [bF]
theorem zOh {g0 : List Nd × Int × Int × List (List UInt8) × Unit -> Option (List UInt8)} {k : Int} {tl : List Nd} {t15 t16 : Int} {row : List (List UInt8)} {bs : List UInt8} (hb : bs.length <= 256) : ∀ (c i m : Nat), i + c = bs.length -> c < m ->
  fix (uP n g0) m (k, [91] ++ tJ (bs.take i), tl, t15, t16, bF bs, ((bF bs).length : Int), (i : Int), row, ()) =
   (chk ((decide (0 <= k) && decide (k <= (row.length : Int)))) (
    chk ((Nat.ble (k.toNat) row.length && Nat.ble (((k.toNat) + 1) * 16) room)) (
     g0 (tl, t15, IntKind.wrap .i64 (t16 + 1), row.take (k.toNat) ++ [[91] ++ tJ bs ++ [93]], ())))) := by
 intro c
 induction c with
 | zero =>
  intro i m hi hm
  rw [dM hm, uP]
  simp only
  rw [aA (by rw [Im]; simp; omega), List.take_of_length_le (by omega), aC (by have := Sb bs; simp [aG]; omega)]
  rfl
 | succ c ih =>
  intro i m hi hm
  have hil : i < bs.length := by omega
  have hc := bs[i].toNat_lt
  rw [dM (by omega), uP]
  simp only
  rw [aD (by rw [Im]; simp; omega), aC (iN (by rw [Im]; exact hil)), zOg hil, aC (by decide), IntWalk.u64_in (bs[i].toNat : Int) (by omega)]
  rw [show Int.tdiv (bs[i].toNat : Int) 16 = ((bs[i].toNat / 16 : Nat) : Int) from (Int.ofNat_tdiv _ 16).symm, show Int.tmod (bs[i].toNat : Int) 16 = ((bs[i].toNat % 16 : Nat) : Int) from (Int.ofNat_tmod _ 16).symm]
  rw [IntWalk.u64_in _ (by omega), zPh (by omega), aI, aC (by decide), zPh (by omega), aI]
  have hlen := Sb (bs.take i)
  have htl : (bs.take i).length = i := by rw [List.length_take]; omega
  rw [aC (by simp [aG]), aC (by simp [aG]; omega), bG (by omega) (by omega), show (i : Int) + 1 = ((i + 1 : Nat) : Int) by omega]
  have := ih (i + 1) (m - 1) (by omega) (by omega)
  rw [zLp hil] at this
  simpa using this
def Io (v : NV) (y : List UInt8) : List UInt8 :=
 match v with
 | .empty => [101]
 | .bytes p => [91] ++ tJ (mE p) ++ [93]
 | .bol => [94]
 | .eol => [36]
 | .cat _ _ => [38] ++ y
 | .alt _ _ => [124] ++ y
 | .times _ lo hi => [42] ++ nJ lo ++ [44] ++ nJ hi ++ [59] ++ y
 | .group _ _ => [40] ++ y ++ [41]
 | .ref m => [92] ++ nJ (m : Int)
def NV.Vr : NV -> Bool
 | .times _ lo hi => decide (-1 <= lo) && decide (lo < 1000000) && (decide (-1 <= hi) && decide (hi < 1000000))
 | .ref m => decide (m < 1000000)
 | _ => true
theorem join_eq {xs : List (List UInt8)} (h : xs.length <= 2) (hl : xs.flatten.length < 1000000) : strings_Join n (xs, []) = some xs.flatten := by
 match xs, h with
 | [], _ => rfl
 | [x], _ =>
  simp only [List.flatten_cons, List.flatten_nil, List.append_nil] at hl ⊢
  unfold strings_Join
  rw [aC (by simp [uK, room]; omega)]; rfl
 | [x, y], _ =>
  simp only [List.flatten_cons, List.flatten_nil, List.append_nil] at hl ⊢
  rw [List.length_append] at hl
  unfold strings_Join
  rw [aC (by simp [uK, room]; omega)]; simp [uK]
theorem Zh {g : List Nd × Int × Int × List (List UInt8) × Unit -> Option (List UInt8)} {i : Nat} {v : NV} {pre xs : List (List UInt8)} (hn : 300 <= n) (hl : l.length < 1000000) (hv : l[i]? = some v.node) (hx : xs.length = v.parts) (hp : pre.length < 1000000) (hj : xs.flatten.length < 1000000) (Ip : v.Vr = true) :
    fE n g (l, (l.length : Int), (i : Int), pre ++ xs, ()) = g (l, (l.length : Int), ((i + 1 : Nat) : Int), pre ++ [Io v xs.flatten], ()) := by
  have hi : i < l.length := (List.getElem?_eq_some_iff.1 hv).1
  have hx2 : xs.length <= 2 := by rw [hx]; cases v <;> simp [NV.parts]
  have hget : ∀ d, aQ d l (i : Int) = v.node := by
    intro d
    rw [jC hi]
    rw [List.getElem?_eq_getElem hi] at hv
    exact Option.some.inj hv
  unfold fE
  simp only
  rw [aD (by simp; omega), aC (iN hi), hget, parts_eq, aI]
  have zWe : IntKind.wrap .i64 (((pre ++ xs).length : Int) - (v.parts : Int)) = (pre.length : Int) := by
    rw [List.length_append, hx, bG (by omega) (by omega)]; omega
  rw [zWe, aC (by simp; omega), Int.toNat_natCast]
  have hdrop : ((pre ++ xs).drop (0 + pre.length)).take ((pre ++ xs).length - pre.length) = xs := by
    rw [Nat.zero_add, List.drop_left, List.take_of_length_le (by simp)]
  rw [aC (by simp), hdrop, join_eq hx2 hj, aI]
  have hput : ∀ y : List UInt8, chk ((decide ((0 : Int) <= (pre.length : Int)) && decide ((pre.length : Int) <= ((pre ++ xs).length : Int)))) (
        chk ((Nat.ble pre.length (pre ++ xs).length && Nat.ble ((pre.length + ([y] : List (List UInt8)).length) * 16) room)) (
          g (l, (l.length : Int), IntKind.wrap .i64 ((i : Int) + 1), (pre ++ xs).take pre.length ++ [y], ()))) = g (l, (l.length : Int), ((i + 1 : Nat) : Int), pre ++ [y], ()) := by
    intro y
    rw [aC (by simp; omega), aC (by simp [room]; omega), bG (by omega) (by omega), List.take_left]; rfl
  cases v with
  | empty => rw [aD (by rfl)]; exact hput [101]
  | bytes p =>
    simp only [NV.node, NV.parts, List.length_eq_zero_iff] at hx ⊢
    subst hx
    rw [aA (by rfl), aD (by rfl), zEk, aI]
    have hb := Vi p
    rw [aC (by simp [room]; omega)]
    have := zOh (n := n) (g0 := g) (k := (pre.length : Int)) (tl := l) (t15 := (l.length : Int)) (t16 := (i : Int)) (row := pre ++ []) (bs := mE p) hb (mE p).length 0 n (by omega) (by omega)
    simp only [List.take_zero, tJ, List.flatMap_nil, List.append_nil, Int.toNat_natCast] at this hput ⊢
    rw [show ((0 : Nat) : Int) = 0 from rfl] at this
    rw [this]
    exact hput _
  | bol => rw [aA (by rfl), aA (by rfl), aD (by rfl)]; exact hput [94]
  | eol => rw [aA (by rfl), aA (by rfl), aA (by rfl), aD (by rfl)]; exact hput [36]
  | cat a b =>
    rw [aA (by rfl), aA (by rfl), aA (by rfl), aA (by rfl), aD (by rfl), aC (by simp [aG]; simp at hj; omega)]
    exact hput _
  | alt a b =>
    rw [aA (by rfl), aA (by rfl), aA (by rfl), aA (by rfl), aA (by rfl), aD (by rfl), aC (by simp [aG]; simp at hj; omega)]
    exact hput _
  | times a lo hi =>
    simp only [NV.Vr, Bool.and_eq_true, decide_eq_true_eq] at Ip
    have h1 := @xR lo
    have h2 := @xR hi
    simp only [NV.node]
    rw [aA (by rfl), aA (by rfl), aA (by rfl), aA (by rfl), aA (by rfl), aA (by rfl), aD (by rfl), Xx Ip.1.1 Ip.1.2, aI, aC (by simp [aG]; omega), aC (by simp [aG]; omega), Xx Ip.2.1 Ip.2.2, aI, aC (by simp [aG]; omega), aC (by simp [aG]; omega), aC (by simp [aG]; simp at hj; omega)]
    exact hput _
  | group a m =>
    rw [aA (by rfl), aA (by rfl), aA (by rfl), aA (by rfl), aA (by rfl), aA (by rfl), aA (by rfl), aD (by rfl), aC (by simp [aG]; simp at hj; omega), aC (by simp [aG]; simp at hj; omega)]
    exact hput _
  | ref m =>
    simp only [NV.Vr, decide_eq_true_eq] at Ip
    have h1 := @xR (m : Int)
    simp only [NV.node]
    rw [aA (by rfl), aA (by rfl), aA (by rfl), aA (by rfl), aA (by rfl), aA (by rfl), aA (by rfl), aA (by rfl), aD (by rfl), Xx (by omega) (by omega), aI, aC (by simp [aG]; omega)]
    exact hput _
theorem zEl (t : Pt) (o : Nat) (h : bY t = true) : (t.nv o).Vr = true := by
 cases t <;> simp only [Pt.nv, NV.Vr]
 case times a lo hi =>
  simp only [bY, fU, Bool.and_eq_true, Bool.or_eq_true, decide_eq_true_eq] at h
  simp only [Bool.and_eq_true, decide_eq_true_eq]
  omega
 case ref m =>
  simp only [bY, Bool.and_eq_true, decide_eq_true_eq] at h
  simp only [decide_eq_true_eq]; omega
theorem zLq (hn : 300 <= n) (hl : l.length < 1000) : ∀ (t : Pt) (o m : Nat) (row : List (List UInt8)), At l o t -> bY t = true -> t.sz < m -> row.length <= o ->
  fix (fE n) m (l, (l.length : Int), (o : Int), row, ()) = fix (fE n) (m - t.sz) (l, (l.length : Int), ((o + t.sz : Nat) : Int), row ++ [dQ t], ()) := by
 have leaf : ∀ (t : Pt), t.sz = 1 -> (∀ o, (t.nv o).parts = 0) -> (∀ o, Io (t.nv o) [] = dQ t) -> ∀ (o m : Nat) (row : List (List UInt8)), At l o t -> bY t = true -> t.sz < m -> row.length <= o ->
   fix (fE n) m (l, (l.length : Int), (o : Int), row, ()) = fix (fE n) (m - t.sz) (l, (l.length : Int), ((o + t.sz : Nat) : Int), row ++ [dQ t], ()) := by
  intro t h1 h2 h3 o m row h hf hm hr
  have hlen := h.len
  have hnd := h.node
  rw [h1] at hnd hm hlen ⊢
  rw [Nat.add_sub_cancel] at hnd
  rw [dM (by omega)]
  have := Zh (n := n) (g := fix (fE n) (m - 1)) (pre := row) (xs := []) hn (by omega) hnd (by rw [h2]; rfl) (by omega) (by simp) (zEl t o hf)
  rw [List.append_nil] at this
  rw [this, List.flatten_nil, h3]
 have fin : ∀ (t : Pt) (o m k : Nat) (row xs : List (List UInt8)), At l o t -> bY t = true -> k + 1 = t.sz -> t.sz < m -> row.length <= o -> xs.length = (t.nv o).parts -> xs.flatten.length < 1000000 -> Io (t.nv o) xs.flatten = dQ t ->
   fix (fE n) (m - k) (l, (l.length : Int), ((o + k : Nat) : Int), row ++ xs, ()) = fix (fE n) (m - t.sz) (l, (l.length : Int), ((o + t.sz : Nat) : Int), row ++ [dQ t], ()) := by
  intro t o m k row xs h hf hk hm hr hx hj ht
  have hlen := h.len
  have hnd := h.node
  rw [show o + t.sz - 1 = o + k by omega] at hnd
  rw [dM (by omega), Zh (n := n) hn (by omega) hnd hx (by omega) hj (zEl t o hf), ht]
  rw [show m - k - 1 = m - t.sz by omega, show o + k + 1 = o + t.sz by omega]
 intro t
 induction t with
 | empty => exact leaf .empty rfl (fun _ => rfl) (fun _ => rfl)
 | bytes p => exact leaf (.bytes p) rfl (fun _ => rfl) (fun _ => rfl)
 | bol => exact leaf .bol rfl (fun _ => rfl) (fun _ => rfl)
 | eol => exact leaf .eol rfl (fun _ => rfl) (fun _ => rfl)
 | ref k => exact leaf (.ref k) rfl (fun _ => rfl) (fun _ => rfl)
 | cat a b iha ihb =>
  intro o m row h hf hm hr
  have hlen := h.len
  have hfa := hf
  simp only [bY, Bool.and_eq_true] at hfa
  have hsz : (Pt.cat a b).sz = a.sz + b.sz + 1 := rfl
  have la := jE a
  have lb := jE b
  have pa := a.dZ
  have pb := b.dZ
  rw [iha o m row h.Nk.1 hfa.1 (by omega) hr, ihb (o + a.sz) (m - a.sz) (row ++ [dQ a]) h.Nk.2 hfa.2 (by omega) (by simp; omega)]
  have := fin (.cat a b) o m (a.sz + b.sz) row [dQ a, dQ b] h hf (by omega) hm hr rfl (by simp; omega) (by simp [Pt.nv, Io, dQ])
  rw [<- this, List.append_assoc, Nat.sub_sub, Nat.add_assoc]; rfl
 | alt a b iha ihb =>
  intro o m row h hf hm hr
  have hlen := h.len
  have hfa := hf
  simp only [bY, Bool.and_eq_true] at hfa
  have hsz : (Pt.alt a b).sz = a.sz + b.sz + 1 := rfl
  have la := jE a
  have lb := jE b
  have pa := a.dZ
  have pb := b.dZ
  rw [iha o m row h.alt1.1 hfa.1 (by omega) hr, ihb (o + a.sz) (m - a.sz) (row ++ [dQ a]) h.alt1.2 hfa.2 (by omega) (by simp; omega)]
  have := fin (.alt a b) o m (a.sz + b.sz) row [dQ a, dQ b] h hf (by omega) hm hr rfl (by simp; omega) (by simp [Pt.nv, Io, dQ])
  rw [<- this, List.append_assoc, Nat.sub_sub, Nat.add_assoc]; rfl
 | times a lo hi iha =>
  intro o m row h hf hm hr
  have hlen := h.len
  have hfa := hf
  simp only [bY, Bool.and_eq_true] at hfa
  have hsz : (Pt.times a lo hi).sz = a.sz + 1 := rfl
  have la := jE a
  rw [iha o m row h.Vp hfa.1 (by omega) hr]
  exact fin (.times a lo hi) o m a.sz row [dQ a] h hf (by omega) hm hr rfl (by simp; omega) (by simp [Pt.nv, Io, dQ])
 | group a k iha =>
  intro o m row h hf hm hr
  have hlen := h.len
  have hfa := hf
  simp only [bY, Bool.and_eq_true] at hfa
  have hsz : (Pt.group a k).sz = a.sz + 1 := rfl
  have la := jE a
  rw [iha o m row h.Vq hfa.1 (by omega) hr]
  exact fin (.group a k) o m a.sz row [dQ a] h hf (by omega) hm hr rfl (by simp; omega) (by simp [Pt.nv, Io, dQ])
theorem zJo {t : Pt} (hn : 300 <= n) (h : sP t) : rZ n (t.enc 0) = some (dQ t) := by
 unfold rZ
 simp only
 rw [zQs (by omega) h]
 simp only [aI, Bool.not_true, bC]
 have hsz := h.1
 have hlen := t.dR 0
 have := zLq (n := n) (l := t.enc 0) hn (by omega) t 0 n [] (At.self t) h.2.1.1 (by omega) (by simp)
 rw [show ((0 : Nat) : Int) = 0 from rfl] at this
 rw [this, dM (by omega), fE]
 simp only
 rw [aA (by rw [hlen]; simp), aC (by simp [inB]), aC (by simp)]
 rfl
end
end Go.Dec
namespace Go.Dec
section
variable {n : Nat} {w : List Int} {a b lo hi m : Int} {u : Unit}
theorem zUj : aY n (0, w, a, b, lo, hi, m, u) = br (Ty.beq aB (0, [0, 0, 0, 0], 0, 0, 0, 0, 0, ()) (0, w, a, b, lo, hi, m, ())) (some true) (some false) := by
 simp [aY, bV, bD, pG]
theorem zUk : aY n (1, w, a, b, lo, hi, m, u) = br (Ty.beq (.arr 4 (.int .u64)) w [0, 0, 0, 0]) (some false) (br (Ty.beq aB (1, w, 0, 0, 0, 0, 0, ()) (1, w, a, b, lo, hi, m, ())) (some true) (some false)) := by
 simp [aY, bV, bD, pG]
theorem zUl : aY n (2, w, a, b, lo, hi, m, u) = br (Ty.beq aB (2, [0, 0, 0, 0], 0, 0, 0, 0, 0, ()) (2, w, a, b, lo, hi, m, ())) (some true) (some false) := by
 simp [aY, bV, bD, pG]
theorem zUm : aY n (3, w, a, b, lo, hi, m, u) = br (Ty.beq aB (3, [0, 0, 0, 0], 0, 0, 0, 0, 0, ()) (3, w, a, b, lo, hi, m, ())) (some true) (some false) := by
 simp [aY, bV, bD, pG]
theorem zUn : aY n (4, w, a, b, lo, hi, m, u) = br (Ty.beq aB (4, [0, 0, 0, 0], a, b, 0, 0, 0, ()) (4, w, a, b, lo, hi, m, ())) (some true) (some false) := by
 simp [aY, bV, bD, eO, pG]
theorem zUo : aY n (5, w, a, b, lo, hi, m, u) = br (Ty.beq aB (5, [0, 0, 0, 0], a, b, 0, 0, 0, ()) (5, w, a, b, lo, hi, m, ())) (some true) (some false) := by
 simp [aY, bV, bD, eO, pG]
theorem zUp : aY n (6, w, a, b, lo, hi, m, u) = br (decide (lo < 0)) (some false) (br (decide (lo > 255)) (some false) (br (hi != (-1)) (br (decide (hi < lo)) (some false) (br (decide (hi < 1)) (some false) (br (decide (hi > 255)) (some false)
  (br (Ty.beq aB (6, [0, 0, 0, 0], a, 0, lo, hi, 0, ()) (6, w, a, b, lo, hi, m, ())) (some true) (some false))))) (br (Ty.beq aB (6, [0, 0, 0, 0], a, 0, lo, hi, 0, ()) (6, w, a, b, lo, hi, m, ())) (some true) (some false)))) := by
 unfold aY
 simp only
 rw [aA (by rfl), aA (by rfl), pG]
 unfold bV
 simp only
 rw [aA (by rfl), aA (by rfl), aA (by rfl), pG]
 unfold eO
 simp only
 rw [aA (by rfl), aD (by rfl)]
 simp only [pG, bD]
 rfl
theorem zUq : aY n (7, w, a, b, lo, hi, m, u) = br (Ty.beq aB (7, [0, 0, 0, 0], a, 0, 0, 0, m, ()) (7, w, a, b, lo, hi, m, ())) (br (decide (m ≥ 1)) (some (decide (m <= 9))) (some false)) (some false) := by
 simp [aY, bV, bD, eO, pG]
theorem zUr : aY n (8, w, a, b, lo, hi, m, u) = br (Ty.beq aB (8, [0, 0, 0, 0], 0, 0, 0, 0, m, ()) (8, w, a, b, lo, hi, m, ())) (br (decide (m ≥ 1)) (some (decide (m <= 9))) (some false)) (some false) := by
 simp [aY, bV, bD, eO, pG]
theorem zUs {k : Int} (h : k < 0 ∨ 8 < k) : aY n (k, w, a, b, lo, hi, m, u) = some false := by
 have e : ∀ j : Int, 0 <= j -> j <= 8 -> (k == j) = false := fun j h1 h2 => by rw [Bool.eq_false_iff, ne_eq, beq_iff_eq]; omega
 simp [aY, bV, eO, pG, e]
end
theorem Nn {n : Nat} {nd : Nd} (hw : Eo nd) : Ol nd (aY n nd) := by
 obtain ⟨k, w, a, b, lo, hi, m, u⟩ := nd
 obtain ⟨p, hp⟩ := hw
 simp only at hp
 subst hp
 by_cases hk : k < 0 ∨ 8 < k
 ·rw [zUs hk]
  exact Or.inr ⟨rfl, fun v hv => by have := Nj v; rw [<- hv] at this; simp only at this; omega⟩
 have hcase : k = 0 ∨ k = 1 ∨ k = 2 ∨ k = 3 ∨ k = 4 ∨ k = 5 ∨ k = 6 ∨ k = 7 ∨ k = 8 := by omega
 have hbad : ∀ {nd' : Nd} {X : Option Bool}, (∀ v : NV, (k, wd p, a, b, lo, hi, m, u) = v.node -> (k, wd p, a, b, lo, hi, m, u) = nd') -> ¬ nd' = (k, wd p, a, b, lo, hi, m, ()) -> Ol (k, wd p, a, b, lo, hi, m, u) (br (Ty.beq aB nd' (k, wd p, a, b, lo, hi, m, ())) X (some false)) := by
  intro nd' X h1 h2
  rw [zSx h2]
  exact Or.inr ⟨rfl, fun v hv => absurd (h1 v hv).symm h2⟩
 have hgood : ∀ {nd' : Nd} {X : Option Bool}, nd' = (k, wd p, a, b, lo, hi, m, ()) -> (br (Ty.beq aB nd' (k, wd p, a, b, lo, hi, m, ())) X (some false)) = X := by
  intro nd' X h
  rw [zSw h]; rfl
 have Ip : ∀ {k : Int} {w : List Int} {a b lo hi : Int} {c : Nat -> NV}, (∀ m' : Nat, (k, w, a, b, lo, hi, (m' : Int), ()) = (c m').node) -> (∀ m', (c m').ok = (decide (1 <= m') && decide (m' <= 9))) -> (∀ v : NV, (k, w, a, b, lo, hi, m, u) = v.node -> ∃ m' : Nat, m = (m' : Int) ∧ v.ok = (decide (1 <= m') && decide (m' <= 9))) ->
   Ol (k, w, a, b, lo, hi, m, u) (br (decide (m ≥ 1)) (some (decide (m <= 9))) (some false)) := by
  intro k w a b lo hi c h1 h2 h3
  by_cases g1 : 1 <= m
  ·rw [aD (by simp; omega)]
   by_cases g2 : m <= 9
   ·obtain ⟨m', rfl⟩ : ∃ m' : Nat, m = (m' : Int) := ⟨m.toNat, by omega⟩
    rw [decide_eq_true g2]
    exact Or.inl ⟨rfl, c m', h1 m', by rw [h2]; simp; omega⟩
   ·rw [decide_eq_false g2]
    refine Or.inr ⟨rfl, fun v hv => ?_⟩
    obtain ⟨m', e1, e2⟩ := h3 v hv
    rw [e2]; simp; omega
  ·rw [aA (by simp; omega)]
   refine Or.inr ⟨rfl, fun v hv => ?_⟩
   obtain ⟨m', e1, e2⟩ := h3 v hv
   rw [e2]; simp; omega
 rcases hcase with rfl | rfl | rfl | rfl | rfl | rfl | rfl | rfl | rfl
 ·rw [zUj]
  by_cases h : ((0, [0, 0, 0, 0], 0, 0, 0, 0, 0, ()) : Nd) = (0, wd p, a, b, lo, hi, m, ())
  ·rw [hgood h]; exact Or.inl ⟨rfl, .empty, h.symm, rfl⟩
  ·exact hbad (fun v hv => by rw [hv]; cases v <;> simp [NV.node] at hv ⊢) h
 ·rw [zUk, lI]
  cases he : iR p
  ·rw [bC]
   by_cases h : ((1, wd p, 0, 0, 0, 0, 0, ()) : Nd) = (1, wd p, a, b, lo, hi, m, ())
   ·rw [hgood h]; exact Or.inl ⟨rfl, .bytes p, h.symm, by simp [NV.ok, he]⟩
   ·exact hbad (fun v hv => by rw [hv]; cases v <;> simp [NV.node] at hv ⊢; exact hv.1.symm) h
  ·refine Or.inr ⟨rfl, fun v hv => ?_⟩
   have e1 := congrArg (fun x : Nd => x.2.1) hv
   have e0 := congrArg (fun x : Nd => x.1) hv
   cases v <;> simp [NV.node] at e0 e1
   simp only [NV.ok]
   rw [<- lI, <- e1, lI, he]; rfl
 ·rw [zUl]
  by_cases h : ((2, [0, 0, 0, 0], 0, 0, 0, 0, 0, ()) : Nd) = (2, wd p, a, b, lo, hi, m, ())
  ·rw [hgood h]; exact Or.inl ⟨rfl, .bol, h.symm, rfl⟩
  ·exact hbad (fun v hv => by rw [hv]; cases v <;> simp [NV.node] at hv ⊢) h
 ·rw [zUm]
  by_cases h : ((3, [0, 0, 0, 0], 0, 0, 0, 0, 0, ()) : Nd) = (3, wd p, a, b, lo, hi, m, ())
  ·rw [hgood h]; exact Or.inl ⟨rfl, .eol, h.symm, rfl⟩
  ·exact hbad (fun v hv => by rw [hv]; cases v <;> simp [NV.node] at hv ⊢) h
 ·rw [zUn]
  by_cases h : ((4, [0, 0, 0, 0], a, b, 0, 0, 0, ()) : Nd) = (4, wd p, a, b, lo, hi, m, ())
  ·rw [hgood h]; exact Or.inl ⟨rfl, .cat a b, h.symm, rfl⟩
  ·exact hbad (fun v hv => by rw [hv]; cases v <;> simp [NV.node] at hv ⊢; exact ⟨hv.2.1.symm, hv.2.2.1.symm⟩) h
 ·rw [zUo]
  by_cases h : ((5, [0, 0, 0, 0], a, b, 0, 0, 0, ()) : Nd) = (5, wd p, a, b, lo, hi, m, ())
  ·rw [hgood h]; exact Or.inl ⟨rfl, .alt a b, h.symm, rfl⟩
  ·exact hbad (fun v hv => by rw [hv]; cases v <;> simp [NV.node] at hv ⊢; exact ⟨hv.2.1.symm, hv.2.2.1.symm⟩) h
 ·rw [zUp]
  have hno : fU lo hi = false -> ∀ v : NV, (6, wd p, a, b, lo, hi, m, u) = v.node -> v.ok = false := by
   intro ht v hv
   have e1 := congrArg (fun x : Nd => x.2.2.2.2.1) hv
   have e2 := congrArg (fun x : Nd => x.2.2.2.2.2.1) hv
   have e0 := congrArg (fun x : Nd => x.1) hv
   cases v <;> simp [NV.node] at e0 e1 e2
   simp only [NV.ok]
   rw [<- e1, <- e2]; exact ht
  have heq : fU lo hi = true -> Ol (6, wd p, a, b, lo, hi, m, u) (br (Ty.beq aB (6, [0, 0, 0, 0], a, 0, lo, hi, 0, ()) (6, wd p, a, b, lo, hi, m, ())) (some true) (some false)) := by
   intro ht
   by_cases h : ((6, [0, 0, 0, 0], a, 0, lo, hi, 0, ()) : Nd) = (6, wd p, a, b, lo, hi, m, ())
   ·rw [hgood h]; exact Or.inl ⟨rfl, .times a lo hi, h.symm, ht⟩
   ·exact hbad (fun v hv => by rw [hv]; cases v <;> simp [NV.node] at hv ⊢; exact ⟨hv.2.1.symm, hv.2.2.2.1.symm, hv.2.2.2.2.1.symm⟩) h
  by_cases g1 : lo < 0
  ·rw [aD (by simpa using g1)]; exact Or.inr ⟨rfl, hno (by simp [fU]; omega)⟩
  rw [aA (by simpa using g1)]
  by_cases g2 : lo > 255
  ·rw [aD (by simpa using g2)]; exact Or.inr ⟨rfl, hno (by simp [fU]; omega)⟩
  rw [aA (by simpa using g2)]
  by_cases g3 : hi = -1
  ·rw [aA (by simp [g3])]; exact heq (by simp [fU]; omega)
  rw [aD (by simpa using g3)]
  by_cases g4 : hi < lo
  ·rw [aD (by simpa using g4)]; exact Or.inr ⟨rfl, hno (by simp [fU]; omega)⟩
  rw [aA (by simpa using g4)]
  by_cases g5 : hi < 1
  ·rw [aD (by simpa using g5)]; exact Or.inr ⟨rfl, hno (by simp [fU]; omega)⟩
  rw [aA (by simpa using g5)]
  by_cases g6 : hi > 255
  ·rw [aD (by simpa using g6)]; exact Or.inr ⟨rfl, hno (by simp [fU]; omega)⟩
  rw [aA (by simpa using g6)]
  exact heq (by simp [fU]; omega)
 ·rw [zUq]
  by_cases h : ((7, [0, 0, 0, 0], a, 0, 0, 0, m, ()) : Nd) = (7, wd p, a, b, lo, hi, m, ())
  ·rw [hgood h]
   simp only [Prod.mk.injEq, true_and, and_true] at h
   obtain ⟨h1, h2, h3, h4⟩ := h
   rw [<- h1, <- h2, <- h3, <- h4]
   refine Ip (c := fun m' => .group a m') (fun _ => rfl) (fun _ => rfl) (fun v hv => ?_)
   have e1 := congrArg (fun x : Nd => x.2.2.2.2.2.2.1) hv
   have e0 := congrArg (fun x : Nd => x.1) hv
   cases v <;> simp [NV.node] at e0 e1
   exact ⟨_, e1, rfl⟩
  ·exact hbad (fun v hv => by rw [hv]; cases v <;> simp [NV.node] at hv ⊢; exact ⟨hv.2.1.symm, hv.2.2.2.2.2.symm⟩) h
 ·rw [zUr]
  by_cases h : ((8, [0, 0, 0, 0], 0, 0, 0, 0, m, ()) : Nd) = (8, wd p, a, b, lo, hi, m, ())
  ·rw [hgood h]
   simp only [Prod.mk.injEq, true_and, and_true] at h
   obtain ⟨h1, h2, h3, h4, h5⟩ := h
   rw [<- h1, <- h2, <- h3, <- h4, <- h5]
   refine Ip (c := fun m' => .ref m') (fun _ => rfl) (fun _ => rfl) (fun v hv => ?_)
   have e1 := congrArg (fun x : Nd => x.2.2.2.2.2.2.1) hv
   have e0 := congrArg (fun x : Nd => x.1) hv
   cases v <;> simp [NV.node] at e0 e1
   exact ⟨_, e1, rfl⟩
  ·exact hbad (fun v hv => by rw [hv]; cases v <;> simp [NV.node] at hv ⊢; exact hv.2.2.2.2.2.symm) h
end Go.Dec
namespace Go.Dec
section
variable {l : List Nd}
theorem Ep {i j : Nat} {t : Pt} (h1 : l.take (i + 1) = l.take j ++ t.enc j) (hj : j <= l.length) : At l j t :=
 ⟨l.take j, l.drop (i + 1), by rw [<- h1, List.take_append_drop], by rw [List.length_take]; omega⟩
theorem zQt (hl : l.length < 1000000) : ∀ (t : Pt) (o m : Nat), At l o t -> t.sz <= m -> dG m (l, t.top o) = some (o : Int) := by
 intro t
 have start : ∀ {t : Pt} {o m : Nat}, dG (m + 1) (l, t.top o) = dS m (dG m) (l, t.top o) := rfl
 have leaf : ∀ t : Pt, t.sz = 1 -> t.kind ≠ 4 -> t.kind ≠ 5 -> t.kind ≠ 6 -> t.kind ≠ 7 -> ∀ (o m : Nat), At l o t -> t.sz <= m -> dG m (l, t.top o) = some (o : Int) := by
  intro t h1 h4 h5 h6 h7 o m h hm
  obtain ⟨m, rfl⟩ : ∃ k, m = k + 1 := ⟨m - 1, by omega⟩
  rw [start]
  unfold dS
  simp only
  have htop : t.top o = (o : Int) := by unfold Pt.top; omega
  rw [aA (by rw [htop]; simp), aC h.top.1, h.top.2, Pt.sN]
  rw [aA (by simpa using h4), aA (by simpa using h5), aA (by simpa using h6), aA (by simpa using h7), htop]
 induction t with
 | empty => exact leaf .empty rfl (by decide) (by decide) (by decide) (by decide)
 | bytes p => exact leaf (.bytes p) rfl (by simp [Pt.kind]) (by simp [Pt.kind]) (by simp [Pt.kind]) (by simp [Pt.kind])
 | bol => exact leaf .bol rfl (by decide) (by decide) (by decide) (by decide)
 | eol => exact leaf .eol rfl (by decide) (by decide) (by decide) (by decide)
 | ref k => exact leaf (.ref k) rfl (by simp [Pt.kind]) (by simp [Pt.kind]) (by simp [Pt.kind]) (by simp [Pt.kind])
 | cat a b iha ihb =>
  intro o m h hm
  obtain ⟨m, rfl⟩ : ∃ k, m = k + 1 := ⟨m - 1, by simp only [Pt.sz] at hm; omega⟩
  have hlen := h.len
  have pa := a.dZ
  have pb := b.dZ
  simp only [Pt.sz] at hm hlen
  rw [start]
  unfold dS
  simp only
  have htop : (Pt.cat a b).top o = ((o + a.sz + b.sz : Nat) : Int) := by unfold Pt.top; simp only [Pt.sz]; omega
  have hb1 : IntKind.wrap .i64 ((Pt.cat a b).top o - 1) = b.top (o + a.sz) := by rw [htop, bG (by omega) (by omega)]; unfold Pt.top; omega
  rw [aA (by rw [htop]; simp; omega), aC h.top.1, h.top.2, hb1]
  simp only [Pt.nv, NV.node]
  rw [aD (by rfl), aD (by rfl), aC h.top.1, aA (by simp), ihb (o + a.sz) m h.Nk.2 (by omega)]
  simp only [aI]
  have ha1 : IntKind.wrap .i64 (((o + a.sz : Nat) : Int) - 1) = a.top o := by rw [bG (by omega) (by omega)]; rfl
  rw [aA (by simp; omega), aC h.top.1, ha1, aA (by simp), iha o m h.Nk.1 (by omega)]
  rfl
 | alt a b iha ihb =>
  intro o m h hm
  obtain ⟨m, rfl⟩ : ∃ k, m = k + 1 := ⟨m - 1, by simp only [Pt.sz] at hm; omega⟩
  have hlen := h.len
  have pa := a.dZ
  have pb := b.dZ
  simp only [Pt.sz] at hm hlen
  rw [start]
  unfold dS
  simp only
  have htop : (Pt.alt a b).top o = ((o + a.sz + b.sz : Nat) : Int) := by unfold Pt.top; simp only [Pt.sz]; omega
  have hb1 : IntKind.wrap .i64 ((Pt.alt a b).top o - 1) = b.top (o + a.sz) := by rw [htop, bG (by omega) (by omega)]; unfold Pt.top; omega
  rw [aA (by rw [htop]; simp; omega), aC h.top.1, h.top.2, hb1]
  simp only [Pt.nv, NV.node]
  rw [aA (by rfl), aD (by rfl), aC h.top.1, aA (by simp), ihb (o + a.sz) m h.alt1.2 (by omega)]
  simp only [aI]
  have ha1 : IntKind.wrap .i64 (((o + a.sz : Nat) : Int) - 1) = a.top o := by rw [bG (by omega) (by omega)]; rfl
  rw [aA (by simp; omega), aC h.top.1, ha1, aA (by simp), iha o m h.alt1.1 (by omega)]
  rfl
 | times a lo hi iha =>
  intro o m h hm
  obtain ⟨m, rfl⟩ : ∃ k, m = k + 1 := ⟨m - 1, by simp only [Pt.sz] at hm; omega⟩
  have hlen := h.len
  have pa := a.dZ
  simp only [Pt.sz] at hm hlen
  rw [start]
  unfold dS
  simp only
  have htop : (Pt.times a lo hi).top o = ((o + a.sz : Nat) : Int) := by unfold Pt.top; simp only [Pt.sz]; omega
  have hb1 : IntKind.wrap .i64 ((Pt.times a lo hi).top o - 1) = a.top o := by rw [htop, bG (by omega) (by omega)]; rfl
  rw [aA (by rw [htop]; simp; omega), aC h.top.1, h.top.2, hb1]
  simp only [Pt.nv, NV.node]
  rw [aA (by rfl), aA (by rfl), aD (by rfl), aD (by rfl), aC h.top.1, aA (by simp), iha o m h.Vp (by omega)]
  rfl
 | group a k iha =>
  intro o m h hm
  obtain ⟨m, rfl⟩ : ∃ k, m = k + 1 := ⟨m - 1, by simp only [Pt.sz] at hm; omega⟩
  have hlen := h.len
  have pa := a.dZ
  simp only [Pt.sz] at hm hlen
  rw [start]
  unfold dS
  simp only
  have htop : (Pt.group a k).top o = ((o + a.sz : Nat) : Int) := by unfold Pt.top; simp only [Pt.sz]; omega
  have hb1 : IntKind.wrap .i64 ((Pt.group a k).top o - 1) = a.top o := by rw [htop, bG (by omega) (by omega)]; rfl
  rw [aA (by rw [htop]; simp; omega), aC h.top.1, h.top.2, hb1]
  simp only [Pt.nv, NV.node]
  rw [aA (by rfl), aA (by rfl), aA (by rfl), aD (by rfl), aC h.top.1, aA (by simp), iha o m h.Vq (by omega)]
  rfl
theorem At.take {o : Nat} {t : Pt} (h : At l o t) : l.take (o + t.sz) = l.take o ++ t.enc o := by
 obtain ⟨pre, post, rfl, hp⟩ := h
 subst hp
 have h1 : (pre ++ t.enc pre.length ++ post).take (pre.length + t.sz) = pre ++ t.enc pre.length := by
  rw [List.take_append_of_le_length (by rw [List.length_append, Pt.dR]; exact Nat.le_refl _), List.take_of_length_le (by rw [List.length_append, Pt.dR]; exact Nat.le_refl _)]
 rw [h1, List.append_assoc, List.take_left]
theorem Zi {m : Nat} (hm : 1 <= m) : dG m (l, -1) = some (-1) := by
 obtain ⟨m, rfl⟩ : ∃ k, m = k + 1 := ⟨m - 1, by omega⟩
 rfl
def Ay (l : List Nd) (i : Nat) (e : Option Int) : Prop := ∃ j : Int, e = some j ∧ (j = -1 ∨ ∃ (o : Nat) (t : Pt), j = (o : Int) ∧ o + t.sz = i + 1 ∧ At l o t ∧ bY t = true)
theorem zQu (hl : l.length < 1000000) (hall : ∀ (i : Nat) (x : Nd), l[i]? = some x -> ∃ v : NV, x = v.node ∧ v.ok = true) : ∀ (i m : Nat), i < l.length -> i + 2 <= m -> Ay l i (dG m (l, (i : Int))) := by
 intro i
 induction i using Nat.strongRecOn with
 | ind i ih =>
  intro m hi hm
  obtain ⟨m, rfl⟩ : ∃ k, m = k + 1 := ⟨m - 1, by omega⟩
  have hli : l[i]? = some l[i] := List.getElem?_eq_getElem hi
  obtain ⟨v, hv, hok⟩ := hall i l[i] hli
  have hget : ∀ d, aQ d l (i : Int) = v.node := fun d => by rw [jC hi, hv]
  have start : dG (m + 1) (l, (i : Int)) = dS m (dG m) (l, (i : Int)) := rfl
  rw [start]
  unfold dS
  simp only
  rw [aA (by simp), aC (iN hi), hget]
  have hw1 : IntKind.wrap .i64 ((i : Int) - 1) = (i : Int) - 1 := bG (by omega) (by omega)
  have zJp : l.take (i + 1) = l.take i ++ [v.node] := by rw [Nl hli, hv]
  have hno : Ay l i (some (-1)) := ⟨-1, rfl, Or.inl rfl⟩
  have leaf : ∀ t : Pt, t.sz = 1 -> t.enc i = [v.node] -> bY t = true -> Ay l i (some (i : Int)) := by
   intro t h1 h2 h3
   exact ⟨_, rfl, Or.inr ⟨i, t, rfl, by omega, Ep (i := i) (by rw [zJp, h2]) (by omega), h3⟩⟩
  have prev : Ay l (i - 1) (dG m (l, (i : Int) - 1)) ∨ dG m (l, (i : Int) - 1) = some (-1) := by
   by_cases h0 : i = 0
   ·right; subst h0; exact Zi (by omega)
   ·left
    have := ih (i - 1) (by omega) m (by omega) (by omega)
    rw [show ((i - 1 : Nat) : Int) = (i : Int) - 1 by omega] at this
    exact this
  have zPi : dG m (l, (i : Int) - 1) = some (-1) ∨ ∃ (o : Nat) (t : Pt), dG m (l, (i : Int) - 1) = some (o : Int) ∧ o + t.sz = i ∧ At l o t ∧ bY t = true := by
   rcases prev with ⟨j, e1, e2⟩ | e
   ·rcases e2 with rfl | ⟨o, t, rfl, e4, e5, e6⟩
    ·exact Or.inl e1
    ·have := t.dZ
     refine Or.inr ⟨o, t, e1, ?_, e5, e6⟩
     have h5 := e5.len
     by_cases h0 : i = 0
     ·subst h0; rw [show ((0 : Nat) : Int) - 1 = -1 from rfl, Zi (by omega)] at e1; simp at e1
     ·omega
   ·exact Or.inl e
  have one : ∀ (x : Int) (mk : Pt -> Pt), (∀ a, (mk a).sz = a.sz + 1) -> (∀ a o, a.top o = x -> (mk a).enc o = a.enc o ++ [v.node]) -> (∀ a, bY a = true -> bY (mk a) = true) ->
    Ay l i (br (x != (i : Int) - 1) (some (-1)) (ob (dG m (l, (i : Int) - 1)) fun y => some y)) := by
   intro x mk h1 h2 h3
   by_cases hx : x = (i : Int) - 1
   ·rw [aA (by simp [hx])]
    rcases zPi with e | ⟨o, a, e, e4, e5, e6⟩
    ·rw [e]; exact hno
    ·rw [e]
     refine ⟨_, rfl, Or.inr ⟨o, mk a, rfl, by rw [h1]; omega, Ep (i := i) ?_ (by have := e5.len; omega), h3 a e6⟩⟩
     have ht := e5.take
     rw [e4] at ht
     rw [zJp, ht, h2 a o (by rw [hx]; unfold Pt.top; omega), List.append_assoc]
   ·rw [aD (by simpa using hx)]
    exact hno
  have two : ∀ (x y : Int) (mk : Pt -> Pt -> Pt), (∀ a b, (mk a b).sz = a.sz + b.sz + 1) -> (∀ a b o, a.top o = x -> b.top (o + a.sz) = y -> (mk a b).enc o = a.enc o ++ b.enc (o + a.sz) ++ [v.node]) -> (∀ a b, bY a = true -> bY b = true -> bY (mk a b) = true) ->
    Ay l i (br (y != (i : Int) - 1) (some (-1)) (ob (dG m (l, (i : Int) - 1)) fun y5 => br (decide (y5 < 1)) (some (-1)) (chk (inB (i : Int) l.length) (br (x != IntKind.wrap .i64 (y5 - 1)) (some (-1)) (ob (dG m (l, IntKind.wrap .i64 (y5 - 1))) fun y9 => some y9))))) := by
   intro x y mk h1 h2 h3
   by_cases hy : y = (i : Int) - 1
   ·rw [aA (by simp [hy])]
    rcases zPi with e | ⟨o, b, e, e4, e5, e6⟩
    ·rw [e]; exact hno
    ·rw [e, aI]
     by_cases h0 : o = 0
     ·subst h0; exact hno
     ·have hw2 : IntKind.wrap .i64 ((o : Int) - 1) = ((o - 1 : Nat) : Int) := by have := e5.len; rw [bG (by omega) (by omega)]; omega
      have pb := b.dZ
      have hl5 := e5.len
      rw [aA (by simp; omega), aC (iN hi), hw2]
      by_cases hx : x = ((o - 1 : Nat) : Int)
      ·rw [aA (by simp [hx])]
       obtain ⟨j, k1, k2⟩ := ih (o - 1) (by omega) m (by omega) (by omega)
       rw [k1]
       rcases k2 with rfl | ⟨o2, a, rfl, k3, k4, k5⟩
       ·exact hno
       ·have pa := a.dZ
        have ho : o2 + a.sz = o := by omega
        refine ⟨_, rfl, Or.inr ⟨o2, mk a b, rfl, by rw [h1]; omega, Ep (i := i) ?_ (by omega), h3 a b k5 e6⟩⟩
        have ht := e5.take
        have ht2 := k4.take
        rw [e4] at ht
        rw [ho] at ht2
        rw [zJp, ht, ht2, h2 a b o2 (by rw [hx]; unfold Pt.top; omega) (by rw [hy, ho]; unfold Pt.top; omega), ho]
        simp only [List.append_assoc]
      ·rw [aD (by simpa using hx)]
       exact hno
   ·rw [aD (by simpa using hy)]
    exact hno
  rw [hw1]
  cases v with
  | empty => exact leaf .empty rfl rfl rfl
  | bytes p => exact leaf (.bytes p) rfl rfl hok
  | bol => exact leaf .bol rfl rfl rfl
  | eol => exact leaf .eol rfl rfl rfl
  | ref k => exact leaf (.ref k) rfl rfl hok
  | cat x y =>
   simp only [NV.node]
   rw [aD (by rfl), aD (by rfl), aC (iN hi)]
   exact two x y .cat (fun _ _ => rfl) (fun a b o h1 h2 => by simp only [Pt.enc, h1, h2, NV.node]) (fun a b h1 h2 => by simp [bY, h1, h2])
  | alt x y =>
   simp only [NV.node]
   rw [aA (by rfl), aD (by rfl), aC (iN hi)]
   exact two x y .alt (fun _ _ => rfl) (fun a b o h1 h2 => by simp only [Pt.enc, h1, h2, NV.node]) (fun a b h1 h2 => by simp [bY, h1, h2])
  | times x lo hi' =>
   simp only [NV.node]
   rw [aA (by rfl), aA (by rfl), aD (by rfl), aD (by rfl), aC (iN hi)]
   exact one x (fun a => .times a lo hi') (fun _ => rfl) (fun a o h1 => by simp only [Pt.enc, h1, NV.node]) (fun a h1 => by simp only [bY, h1, Bool.true_and]; exact hok)
  | group x k =>
   simp only [NV.node]
   rw [aA (by rfl), aA (by rfl), aA (by rfl), aD (by rfl), aC (iN hi)]
   exact one x (fun a => .group a k) (fun _ => rfl) (fun a o h1 => by simp only [Pt.enc, h1, NV.node]) (fun a h1 => by simp only [bY, h1, Bool.true_and]; exact hok)
end
end Go.Dec
namespace Go.Dec
def dH (len : Nat) (t : Pt) : Bool := decide (len = 1) || fB t
def jI (len : Nat) (t : Pt) (w : W4) : Option (Bool × Int × List Bool × Bool × Unit) :=
 some ((aK t w).2.1 && (cO t && dH len t), ((aK t w).1 : Int), (aK t w).2.2.1, (aK t w).2.2.2, ())
theorem Vs {l : List Nd} (hl : l.length < 1000000) : ∀ (t : Pt) (o m : Nat) (w : W4), At l o t -> bY t = true -> t.sz <= m -> w.1 + t.sz < 1000000 -> w.2.2.1.length = 10 ->
  dX m (l, t.top o, (w.2.1, ((w.1 : Int), (w.2.2.1, (w.2.2.2, ()))))) = jI l.length t w := by
 intro t
 have start : ∀ {t : Pt} {o m : Nat} {x : Bool × Int × List Bool × Bool × Unit}, dX (m + 1) (l, t.top o, x) = cK m (dX m) (l, t.top o, x) := rfl
 induction t with
 | empty =>
  intro o m w h hf hm hg he
  obtain ⟨m, rfl⟩ : ∃ k, m = k + 1 := ⟨m - 1, by simp only [Pt.sz] at hm; omega⟩
  rw [start]; unfold cK; simp only
  rw [aC h.top.1, h.top.2]
  simp only [Pt.nv, NV.node]
  rw [aA (by rfl), aA (by rfl), aA (by rfl), aA (by rfl), aA (by rfl), aD (by rfl)]
  unfold jI dH
  by_cases h1 : l.length = 1
  ·rw [aA (by simp [h1]), decide_eq_true h1]; simp [aK, cO]
  ·rw [aD (by simp; omega), decide_eq_false h1]; simp [aK, fB]
 | bytes p =>
  intro o m w h hf hm hg he
  obtain ⟨m, rfl⟩ : ∃ k, m = k + 1 := ⟨m - 1, by simp only [Pt.sz] at hm; omega⟩
  rw [start]; unfold cK; simp only
  rw [aC h.top.1, h.top.2]
  simp only [Pt.nv, NV.node]
  rw [aA (by rfl), aA (by rfl), aA (by rfl), aA (by rfl), aA (by rfl), aA (by rfl)]
  simp [jI, dH, aK, cO, fB]
 | bol =>
  intro o m w h hf hm hg he
  obtain ⟨m, rfl⟩ : ∃ k, m = k + 1 := ⟨m - 1, by simp only [Pt.sz] at hm; omega⟩
  rw [start]; unfold cK; simp only
  rw [aC h.top.1, h.top.2]
  simp only [Pt.nv, NV.node]
  rw [aA (by rfl), aA (by rfl), aA (by rfl), aA (by rfl), aA (by rfl), aA (by rfl)]
  simp [jI, dH, aK, cO, fB]
 | eol =>
  intro o m w h hf hm hg he
  obtain ⟨m, rfl⟩ : ∃ k, m = k + 1 := ⟨m - 1, by simp only [Pt.sz] at hm; omega⟩
  rw [start]; unfold cK; simp only
  rw [aC h.top.1, h.top.2]
  simp only [Pt.nv, NV.node]
  rw [aA (by rfl), aA (by rfl), aA (by rfl), aA (by rfl), aA (by rfl), aA (by rfl)]
  simp [jI, dH, aK, cO, fB]
 | ref k =>
  intro o m w h hf hm hg he
  obtain ⟨m, rfl⟩ : ∃ k, m = k + 1 := ⟨m - 1, by simp only [Pt.sz] at hm; omega⟩
  simp only [bY, Bool.and_eq_true, decide_eq_true_eq] at hf
  rw [start]; unfold cK; simp only
  rw [aC h.top.1, h.top.2]
  simp only [Pt.nv, NV.node]
  rw [aA (by rfl), aA (by rfl), aA (by rfl), aA (by rfl), aD (by rfl), aC (iN (i := k) (n := 10) (by omega)), aC (by exact decide_eq_true (show k < 10 by omega)), Int.toNat_natCast, show Ty.dflt .bool = false from rfl]
  simp only [jI, dH, aK, cO, fB, Bool.or_true, Bool.and_true]
  cases w.2.2.1.getD k false
  ·simp
  ·simp
 | cat a b iha ihb =>
  intro o m w h hf hm hg he
  obtain ⟨m, rfl⟩ : ∃ k, m = k + 1 := ⟨m - 1, by simp only [Pt.sz] at hm; omega⟩
  simp only [bY, Bool.and_eq_true] at hf
  simp only [Pt.sz] at hm hg
  have hga := uE a w
  have ha := h.Nk.1
  have hb := h.Nk.2
  have key : ∀ c : Bool, (ob (dX m (l, a.top o, (w.2.1 && c, ((w.1 : Int), (w.2.2.1, (w.2.2.2, ())))))) fun y => ob (dX m (l, b.top (o + a.sz), y)) fun y2 => some y2) =
    some ((aK b (aK a w)).2.1 && (c && (cO a && dH l.length a && (cO b && dH l.length b))), ((aK b (aK a w)).1 : Int), (aK b (aK a w)).2.2.1, (aK b (aK a w)).2.2.2, ()) := by
   intro c
   have h1 := iha o m (w.1, w.2.1 && c, w.2.2.1, w.2.2.2) ha hf.1 (by omega) (by simp only; omega) he
   simp only at h1
   rw [h1]
   unfold jI
   simp only [aI]
   rw [mH a]
   have h2 := ihb (o + a.sz) m ((aK a w).1, (aK a w).2.1 && (c && (cO a && dH l.length a)), (aK a w).2.2.1, (aK a w).2.2.2) hb hf.2 (by omega) (by simp only; omega) (by simp only; rw [kK]; exact he)
   simp only at h2
   rw [show ((aK a (w.1, w.2.1, w.2.2.1, w.2.2.2)).2.1 && c && (cO a && dH l.length a)) = ((aK a w).2.1 && (c && (cO a && dH l.length a))) from Bool.and_assoc _ _ _]
   rw [show (w.1, w.2.1, w.2.2.1, w.2.2.2) = w from rfl]
   rw [h2]
   unfold jI
   simp only [aI]
   rw [mH b]
   rw [show ((aK a w).1, (aK a w).2.1, (aK a w).2.2.1, (aK a w).2.2.2) = aK a w from rfl]
   simp only [Bool.and_assoc]
  rw [start]; unfold cK; simp only
  rw [aC h.top.1, h.top.2]
  simp only [Pt.nv, NV.node]
  rw [aD (by rfl), aC ha.top.1, ha.top.2, Pt.sN, aC hb.top.1, hb.top.2, Pt.sN]
  have hall : jI l.length (.cat a b) w = some ((aK b (aK a w)).2.1 && ((decide (a.kind ≠ 4) && decide (a.kind ≠ 5) && decide (b.kind ≠ 5)) && (cO a && dH l.length a && (cO b && dH l.length b))), ((aK b (aK a w)).1 : Int), (aK b (aK a w)).2.2.1, (aK b (aK a w)).2.2.2, ()) := by
   unfold jI dH
   simp only [aK, cO, fB]
   congr 2
   cases (aK b (aK a w)).2.1 <;> cases cO a <;> cases cO b <;> cases fB a <;> cases fB b <;> cases decide (l.length = 1) <;> simp
  rw [hall]
  have kf := key false
  have kt := key true
  rw [Bool.and_false] at kf
  rw [Bool.and_true] at kt
  by_cases h4 : a.kind = 4
  ·rw [aD (by simp [h4]), kf]; simp [h4]
  ·rw [aA (by simpa using h4), aC ha.top.1]
   by_cases h5 : a.kind = 5
   ·rw [aD (by simp [h5]), kf]; simp [h5]
   ·rw [aA (by simpa using h5)]
    by_cases h6 : b.kind = 5
    ·rw [aD (by simp [h6]), kf]; simp [h6]
    ·rw [aA (by simpa using h6), kt]; simp [h4, h5, h6]
 | alt a b iha ihb =>
  intro o m w h hf hm hg he
  obtain ⟨m, rfl⟩ : ∃ k, m = k + 1 := ⟨m - 1, by simp only [Pt.sz] at hm; omega⟩
  simp only [bY, Bool.and_eq_true] at hf
  simp only [Pt.sz] at hm hg
  have hga := uE a w
  have ha := h.alt1.1
  have hb := h.alt1.2
  have key : ∀ c : Bool, (ob (dX m (l, a.top o, (w.2.1 && c, ((w.1 : Int), (w.2.2.1, (w.2.2.2, ())))))) fun y => ob (dX m (l, b.top (o + a.sz), y)) fun y2 => some y2) =
    some ((aK b (aK a w)).2.1 && (c && (cO a && dH l.length a && (cO b && dH l.length b))), ((aK b (aK a w)).1 : Int), (aK b (aK a w)).2.2.1, (aK b (aK a w)).2.2.2, ()) := by
   intro c
   have h1 := iha o m (w.1, w.2.1 && c, w.2.2.1, w.2.2.2) ha hf.1 (by omega) (by simp only; omega) he
   simp only at h1
   rw [h1]
   unfold jI
   simp only [aI]
   rw [mH a]
   have h2 := ihb (o + a.sz) m ((aK a w).1, (aK a w).2.1 && (c && (cO a && dH l.length a)), (aK a w).2.2.1, (aK a w).2.2.2) hb hf.2 (by omega) (by simp only; omega) (by simp only; rw [kK]; exact he)
   simp only at h2
   rw [show ((aK a (w.1, w.2.1, w.2.2.1, w.2.2.2)).2.1 && c && (cO a && dH l.length a)) = ((aK a w).2.1 && (c && (cO a && dH l.length a))) from Bool.and_assoc _ _ _]
   rw [show (w.1, w.2.1, w.2.2.1, w.2.2.2) = w from rfl]
   rw [h2]
   unfold jI
   simp only [aI]
   rw [mH b]
   rw [show ((aK a w).1, (aK a w).2.1, (aK a w).2.2.1, (aK a w).2.2.2) = aK a w from rfl]
   simp only [Bool.and_assoc]
  rw [start]; unfold cK; simp only
  rw [aC h.top.1, h.top.2]
  simp only [Pt.nv, NV.node]
  rw [aA (by rfl), aD (by rfl), aC ha.top.1, ha.top.2, Pt.sN]
  have hall : jI l.length (.alt a b) w = some ((aK b (aK a w)).2.1 && (decide (a.kind ≠ 5) && (cO a && dH l.length a && (cO b && dH l.length b))), ((aK b (aK a w)).1 : Int), (aK b (aK a w)).2.2.1, (aK b (aK a w)).2.2.2, ()) := by
   unfold jI dH
   simp only [aK, cO, fB]
   congr 2
   cases (aK b (aK a w)).2.1 <;> cases cO a <;> cases cO b <;> cases fB a <;> cases fB b <;> cases decide (l.length = 1) <;> simp
  rw [hall]
  have kf := key false
  have kt := key true
  rw [Bool.and_false] at kf
  rw [Bool.and_true] at kt
  by_cases h5 : a.kind = 5
  ·rw [aD (by simp [h5]), kf]; simp [h5]
  ·rw [aA (by simpa using h5), kt]; simp [h5]
 | times a lo hi iha =>
  intro o m w h hf hm hg he
  obtain ⟨m, rfl⟩ : ∃ k, m = k + 1 := ⟨m - 1, by simp only [Pt.sz] at hm; omega⟩
  simp only [bY, Bool.and_eq_true] at hf
  simp only [Pt.sz] at hm hg
  have ha := h.Vp
  have key : ∀ c : Bool, (ob (dX m (l, a.top o, (w.2.1 && c, ((w.1 : Int), (w.2.2.1, (w.2.2.2, ())))))) fun y => some y) =
    some ((aK a w).2.1 && (c && (cO a && dH l.length a)), ((aK a w).1 : Int), (aK a w).2.2.1, (aK a w).2.2.2, ()) := by
   intro c
   have h1 := iha o m (w.1, w.2.1 && c, w.2.2.1, w.2.2.2) ha hf.1 (by omega) (by simp only; omega) he
   simp only at h1
   rw [h1]
   unfold jI
   simp only [aI]
   rw [mH a]
   simp only [Bool.and_assoc]
  rw [start]; unfold cK; simp only
  rw [aC h.top.1, h.top.2]
  simp only [Pt.nv, NV.node]
  rw [aA (by rfl), aA (by rfl), aD (by rfl), aC ha.top.1, ha.top.2, Pt.sN]
  have hall : jI l.length (.times a lo hi) w = some ((aK a w).2.1 && ((decide (a.kind = 1) || decide (a.kind = 7) || decide (a.kind = 8)) && (cO a && dH l.length a)), ((aK a w).1 : Int), (aK a w).2.2.1, (aK a w).2.2.2, ()) := by
   unfold jI dH
   simp only [aK, cO, fB]
   congr 2
   cases (aK a w).2.1 <;> cases cO a <;> cases fB a <;> cases decide (l.length = 1) <;> simp
  rw [hall]
  have kf := key false
  have kt := key true
  rw [Bool.and_false] at kf
  rw [Bool.and_true] at kt
  by_cases h1 : a.kind = 1
  ·rw [aA (by simp [h1]), kt]; simp [h1]
  ·rw [aD (by simpa using h1), aC ha.top.1]
   by_cases h7 : a.kind = 7
   ·rw [aA (by simp [h7]), kt]; simp [h7]
   ·rw [aD (by simpa using h7), aC ha.top.1]
    by_cases h8 : a.kind = 8
    ·rw [aA (by simp [h8]), kt]; simp [h8]
    ·rw [aD (by simpa using h8), kf]; simp [h1, h7, h8]
 | group a k iha =>
  intro o m w h hf hm hg he
  obtain ⟨m, rfl⟩ : ∃ k, m = k + 1 := ⟨m - 1, by simp only [Pt.sz] at hm; omega⟩
  simp only [bY, Bool.and_eq_true, decide_eq_true_eq] at hf
  simp only [Pt.sz] at hm hg
  have ha := h.Vq
  rw [start]; unfold cK; simp only
  rw [aC h.top.1, h.top.2]
  simp only [Pt.nv, NV.node]
  rw [aA (by rfl), aA (by rfl), aA (by rfl), aD (by rfl), bG (by omega) (by omega), show (w.1 : Int) + 1 = ((w.1 + 1 : Nat) : Int) from rfl]
  have hI := iha o m (w.1 + 1, w.2.1 && decide (k = w.1 + 1), w.2.2.1, w.2.2.2) ha hf.1 (by omega) (by simp only; omega) he
  simp only at hI
  have hlen := kK a (w.1 + 1, w.2.1 && decide (k = w.1 + 1), w.2.2.1, w.2.2.2)
  by_cases hk : k = w.1 + 1
  ·rw [decide_eq_true hk, Bool.and_true] at hI hlen
   rw [aA (by simp; omega), hI]
   unfold jI
   simp only [aI]
   rw [aC (iN (i := k) (n := 10) (by omega)), aC (by exact decide_eq_true (show k < 10 by omega))]
   simp only [aK, decide_eq_true hk, Bool.and_true, Int.toNat_natCast, cO, dH, fB]
  ·rw [decide_eq_false hk, Bool.and_false] at hI hlen
   rw [aD (by simp; omega), hI]
   unfold jI
   simp only [aI]
   rw [aC (iN (i := k) (n := 10) (by omega)), aC (by exact decide_eq_true (show k < 10 by omega))]
   simp only [aK, decide_eq_false hk, Bool.and_false, Int.toNat_natCast, cO, dH, fB]
theorem zEm {n : Nat} {l : List Nd} (hn : 200 <= n) (hw : ∀ nd ∈ l, Eo nd) :
    (∃ t, sP t ∧ l = t.enc 0 ∧ rE n l = some true) ∨ ((∀ t, sP t -> l ≠ t.enc 0) ∧ rE n l = some false) := by
  have hsz : ∀ t : Pt, l = t.enc 0 -> l.length = t.sz := fun t h => by rw [h, Pt.dR]
  unfold rE Ae
  simp only
  by_cases h0 : l.length = 0
  · rw [aD (by rw [h0]; rfl)]
    exact Or.inr ⟨fun t _ h => by have := hsz t h; have := t.dZ; omega, rfl⟩
  rw [aA (by simp; omega)]
  by_cases h1 : l.length > 120
  · rw [aD (by simp; omega)]
    exact Or.inr ⟨fun t ht h => by have := hsz t h; have := ht.1; omega, rfl⟩
  rw [aA (by simp; omega)]
  have hzero : ([false, false, false, false, false, false, false, false, false, false] : List Bool) = mF := rfl
  rw [hzero]
  rcases Il l with ⟨vs, hv1, hv2⟩ | ⟨j, x, hj, hx⟩
  ·
    have hvn : ∀ (i : Nat) (x : Nd), l[i]? = some x -> ∃ v : NV, x = v.node ∧ v.ok = true := by
      intro i x hi
      rw [<- hv1, List.getElem?_map] at hi
      cases hvi : vs[i]? with
      | none => rw [hvi] at hi; simp at hi
      | some v => rw [hvi] at hi; simp at hi; exact ⟨v, hi.symm, hv2 v (List.mem_of_getElem? hvi)⟩
    have hend : ∀ g, dL n g (l, (l.length : Int), false, 0, mF, false, ()) = dL n (fun _ => none) (l, (l.length : Int), false, 0, mF, false, ()) := by
      intro g
      unfold dL
      simp only
      rw [aA (by simp), aA (by simp)]
    have hloop : fix (dL n) n (l, 0, false, 0, mF, false, ()) = dL n (fun _ => none) (l, (l.length : Int), false, 0, mF, false, ()) := by
      refine wJ (fun i => (l, (i : Int), false, 0, mF, false, ())) (N := l.length) ?_ hend l.length 0 n (by omega) (by omega)
      intro i hi g
      unfold dL
      simp only
      have hli : l[i]? = some l[i] := List.getElem?_eq_getElem hi
      have hok : aY n l[i] = some true := by
        rcases Nn (n := n) (hw _ (List.mem_of_getElem? hli)) with ⟨h, _⟩ | ⟨_, h⟩
        · exact h
        · obtain ⟨v, h2, h3⟩ := hvn i _ hli
          rw [h v h2] at h3; simp at h3
      rw [aD (by simp; omega), aC (iN hi), jC hi, hok]
      simp only [aI, Bool.not_true, bC]
      rw [bG (by omega) (by omega)]; rfl
    rw [hloop]
    unfold dL
    simp only
    rw [aA (by simp), bG (by omega) (by omega)]
    obtain ⟨j, hj1, hj2⟩ := zQu (l := l) (by omega) hvn (l.length - 1) n (by omega) (by omega)
    rw [show ((l.length - 1 : Nat) : Int) = (l.length : Int) - 1 by omega] at hj1
    rw [hj1, aI]
    have zTh : ∀ t : Pt, l = t.enc 0 -> j = 0 := by
      intro t ht
      have hA : At l 0 t := by have := At.self t; rw [<- ht] at this; exact this
      have := zQt (l := l) (by omega) t 0 n hA (by have := hsz t ht; omega)
      have e : t.top 0 = (l.length : Int) - 1 := by unfold Pt.top; rw [hsz t ht]; omega
      rw [e, hj1] at this
      simpa using this
    by_cases hj0 : j = 0
    · subst hj0
      rw [aA (by rfl)]
      rcases hj2 with hbad | ⟨o, t, ho, hs1, hA, hF⟩
      · omega
      · have ho : o = 0 := by omega
        subst ho
        have hlt : l = t.enc 0 := by
          have := hA.take
          rw [Nat.zero_add, List.take_of_length_le (by omega)] at this
          simpa using this
        have hsz2 := hsz t hlt
        have zWf : (l.length : Int) - 1 = t.top 0 := by unfold Pt.top; omega
        rw [zWf]
        have hT := Vs (l := l) (by omega) t 0 n w0 hA hF (by omega) (by simp only [w0]; omega) rfl
        have hT2 : dX n (l, t.top 0, (true, (0, (mF, (false, ()))))) = jI l.length t w0 := hT
        rw [hzero, hT2]
        unfold jI
        simp only [aI]
        have hgood : ((aK t w0).2.1 && (cO t && dH l.length t)) = true <-> sP t := by
          unfold sP wN dH
          simp only [Bool.and_eq_true, Bool.or_eq_true, decide_eq_true_eq]
          constructor
          · rintro ⟨a1, a2, a3⟩
            exact ⟨by omega, ⟨hF, a2, fun hh => by rcases a3 with a3 | a3; omega; exact a3⟩, a1⟩
          · rintro ⟨_, ⟨_, a2, a3⟩, a1⟩
            refine ⟨a1, a2, ?_⟩
            by_cases h1 : l.length = 1
            · exact Or.inl h1
            · exact Or.inr (a3 (by have := t.dZ; omega))
        cases hg : ((aK t w0).2.1 && (cO t && dH l.length t))
        · refine Or.inr ⟨fun u hu h => ?_, rfl⟩
          have hB : At l 0 u := by have := At.self u; rw [<- h] at this; exact this
          have hlu := hsz u h
          have hU := Vs (l := l) (by omega) u 0 n w0 hB hu.2.1.1 (by omega) (by simp only [w0]; omega) rfl
          rw [show u.top 0 = t.top 0 by unfold Pt.top; omega, hT] at hU
          unfold jI at hU
          simp only [Option.some.injEq, Prod.mk.injEq] at hU
          rw [hg] at hU
          have h2 : ((aK u w0).2.1 && (cO u && dH l.length u)) = true := by
            unfold dH
            simp only [Bool.and_eq_true, Bool.or_eq_true, decide_eq_true_eq]
            refine ⟨hu.2.2, hu.2.1.2.1, ?_⟩
            by_cases h1 : l.length = 1
            · exact Or.inl h1
            · exact Or.inr (hu.2.1.2.2 (by have := u.dZ; omega))
          rw [h2] at hU
          exact absurd hU.1 (by simp)
        · exact Or.inl ⟨t, hgood.1 hg, hlt, rfl⟩
    · rw [aD (by simpa using hj0)]
      exact Or.inr ⟨fun t _ h => hj0 (zTh t h), rfl⟩
  ·
    have hjl : j < l.length := (List.getElem?_eq_some_iff.1 hj).1
    have hnot : ∀ t, sP t -> l ≠ t.enc 0 := by
      intro t ht h
      have h2 := sO t 0
      rw [<- h] at h2
      rw [<- h2, List.getElem?_map] at hj
      cases hvi : (t.nvs 0)[j]? with
      | none => rw [hvi] at hj; simp at hj
      | some v =>
        rw [hvi] at hj; simp at hj
        have h3 := hx v hj.symm
        rw [yX t 0 ht.2.1.1 v (List.mem_of_getElem? hvi)] at h3
        simp at h3
    refine Or.inr ⟨hnot, ?_⟩
    have key : ∀ k i m, i + k = j -> k < m -> fix (dL n) m (l, (i : Int), false, 0, mF, false, ()) = some (false, (0, (mF, (false, ())))) := by
      intro k
      induction k with
      | zero =>
        intro i m hi hm
        have hi : i = j := by omega
        subst hi
        rw [dM hm, dL]
        simp only
        have hok : aY n x = some false := by
          rcases Nn (n := n) (hw _ (List.mem_of_getElem? hj)) with ⟨_, v, h2, h3⟩ | ⟨h, _⟩
          · rw [hx v h2] at h3; simp at h3
          · exact h
        have hg : aQ (Ty.dflt aB) l (i : Int) = x := by
          rw [jC hjl]; rw [List.getElem?_eq_getElem hjl] at hj; exact Option.some.inj hj
        rw [aD (by simp; omega), aC (iN hjl), hg, hok]
        rfl
      | succ k ih =>
        intro i m hi hm
        have hil : i < l.length := by omega
        have hli : l[i]? = some l[i] := List.getElem?_eq_getElem hil
        rw [dM (by omega), dL]
        simp only
        rw [aD (by simp; omega), aC (iN hil), jC hil]
        rcases Nn (n := n) (hw _ (List.mem_of_getElem? hli)) with ⟨h, _⟩ | ⟨h, _⟩
        · rw [h]
          simp only [aI, Bool.not_true, bC]
          rw [bG (by omega) (by omega)]
          exact ih (i + 1) (m - 1) (by omega) (by omega)
        · rw [h]; rfl
    have := key j 0 n (by omega) (by omega)
    rw [show ((0 : Nat) : Int) = 0 from rfl] at this
    rw [this]; rfl
end Go.Dec
namespace Go.Dec
def zTi : List UInt8 := [93, 91, 92, 94, 45, 10]
def zOi : List UInt8 := [46, 91, 92, 42, 94, 36]
def zUt (c : UInt8) : List UInt8 := bif c == 10 then [92, 110] else bif zOi.contains c then [92, c] else [c]
section
variable {n : Nat}
end
def zJq (q : Nat -> Bool) : Nat -> Nat -> Nat
 | 0, k => k
 | f + 1, k => bif decide (k + 1 < 256) && q (k + 1) then zJq q f (k + 1) else k
def zAx (q : Nat -> Bool) : Nat -> Nat -> List UInt8
 | 0, _ => []
 | f + 1, i => if i < 256 then (bif q i then (bif decide (i + 2 <= zJq q 256 i) then [UInt8.ofNat i, 45, UInt8.ofNat (zJq q 256 i)] ++ zAx q f (zJq q 256 i + 1) else [UInt8.ofNat i] ++ zAx q f (i + 1)) else zAx q f (i + 1)) else []
end Go.Dec
namespace Go.Dec
def zTj (p : Nat -> Bool) : Nat -> Bool := fun i => p i && !(zTi.contains (UInt8.ofNat i))
def zUu (p : Nat -> Bool) : List UInt8 := (bif p 10 then [92, 110] else []) ++ ((bif p 91 then [91] else []) ++ ((bif p 92 then [92] else []) ++ ((bif p 94 then [94] else []) ++ ((bif p 45 then [45] else []) ++ [93]))))
def zUv (p : Nat -> Bool) : List UInt8 := [91] ++ (bif p 93 then [93] else [])
def zUw (p : Nat -> Bool) : List UInt8 := zUv p ++ zAx (zTj p) 257 0 ++ zUu p
def zUx (p : Nat -> Bool) : List UInt8 :=
 match mE p with
 | [] => []
 | [c] => zUt c
 | l => bif l.length == 256 then [46] else bif l == [45, 94] then [91, 45, 94, 93] else zUw p
section
variable {n : Nat}
end
end Go.Dec
namespace Go.Dec
section
variable {n : Nat} {p : Nat -> Bool}
end
end Go.Dec
