/- Part of a proof over this seat: a library of my own, and what it says of this seat. No statement is proved here. -/
import Derived.Test.YthhbdkdofhhoeaaGreatDoorPartBN
namespace Go.Dec
theorem Om {n : Nat} (s : List UInt8) (hs : s.length < n) (hs2 : s.length < 1000000) (d : UInt8) : nX n (s, (d.toNat : Int)) = some (s.contains d) := by
 unfold nX
 simp only
 have key : ∀ k i m, i + k = s.length -> k < m -> fix (qP n) m (s, (d.toNat : Int), (i : Int), ()) = some ((s.drop i).contains d) := by
  intro k
  induction k with
  | zero =>
   intro i m hi hm
   rw [cB hm, qP]
   simp only
   rw [aQ (by simp; omega), List.drop_of_length_le (by omega)]; rfl
  | succ k ih =>
   intro i m hi hm
   rw [cB (by omega), qP]
   simp only
   have hil : i < s.length := by omega
   rw [aU (by simp; omega), aA (nU hil), nN hil, bG (by omega) (by omega), show (i : Int) + 1 = ((i + 1 : Nat) : Int) by omega, ih (i + 1) (m - 1) (by omega) (by omega)]
   rw [List.drop_eq_getElem_cons hil, List.contains_cons, Dn d]
   have e : ((s[i].toNat : Int) == (d.toNat : Int)) = (s[i] == d) := by rw [eqI d, Dn]
   rw [e]
   cases (s[i] == d) <;> rfl
 have := key s.length 0 n (by omega) (by omega)
 simpa using this
section
variable {n : Nat} {s r : List UInt8} {b : Nat} {en : List Bool} {l : List Nd} {rw' : List UInt8 × Int × StT -> Option (StT × Int)} {row : List UInt8 -> Nat -> List Bool -> Res (Option Pt)}
end
end Go.Dec
namespace Go.Dec
inductive NV where
 | empty | bol | eol
 | bytes (p : Nat -> Bool)
 | cat (a b : Int) | alt (a b : Int)
 | times (a lo hi : Int)
 | group (a : Int) (m : Nat)
 | ref (m : Nat)
def NV.node : NV -> Nd
 | .empty => (0, [0, 0, 0, 0], 0, 0, 0, 0, 0, ())
 | .bytes p => (1, wd p, 0, 0, 0, 0, 0, ())
 | .bol => (2, [0, 0, 0, 0], 0, 0, 0, 0, 0, ())
 | .eol => (3, [0, 0, 0, 0], 0, 0, 0, 0, 0, ())
 | .cat a b => (4, [0, 0, 0, 0], a, b, 0, 0, 0, ())
 | .alt a b => (5, [0, 0, 0, 0], a, b, 0, 0, 0, ())
 | .times a lo hi => (6, [0, 0, 0, 0], a, 0, lo, hi, 0, ())
 | .group a m => (7, [0, 0, 0, 0], a, 0, 0, 0, (m : Int), ())
 | .ref m => (8, [0, 0, 0, 0], 0, 0, 0, 0, (m : Int), ())
def zOj (lo hi : Int) : Bool := decide (0 <= lo) && decide (lo <= 255) && (decide (hi = -1) || (decide (lo <= hi) && decide (1 <= hi) && decide (hi <= 255)))
def NV.ok : NV -> Bool
 | .bytes p => !fA p
 | .times _ lo hi => zOj lo hi
 | .group _ m => decide (1 <= m) && decide (m <= 9)
 | .ref m => decide (1 <= m) && decide (m <= 9)
 | _ => true
section
variable {n : Nat} {w : List Int} {a b lo hi m : Int} {u : Unit}
end
end Go.Dec
namespace Go.Dec
def Pt.nv (o : Nat) : Pt -> NV
 | .empty => .empty
 | .bytes p => .bytes p
 | .bol => .bol
 | .eol => .eol
 | .cat a b => .cat (a.top o) (b.top (o + a.sz))
 | .alt a b => .alt (a.top o) (b.top (o + a.sz))
 | .times a lo hi => .times (a.top o) lo hi
 | .group a m => .group (a.top o) m
 | .ref m => .ref m
def Pt.zMb (o : Nat) : Pt -> List Nd
 | .cat a b => a.enc o ++ b.enc (o + a.sz)
 | .alt a b => a.enc o ++ b.enc (o + a.sz)
 | .times a _ _ => a.enc o
 | .group a _ => a.enc o
 | _ => []
theorem Pt.Xe (o : Nat) (t : Pt) : t.enc o = t.zMb o ++ [(t.nv o).node] := by
 cases t <;> rfl
theorem Pt.zMc (o : Nat) (t : Pt) : (t.zMb o).length + 1 = t.sz := by
 have := t.fO o
 rw [t.Xe] at this
 simpa using this
def At (l : List Nd) (o : Nat) (t : Pt) : Prop := ∃ pre post, l = pre ++ t.enc o ++ post ∧ pre.length = o
theorem At.node {l : List Nd} {o : Nat} {t : Pt} (h : At l o t) : l[o + t.sz - 1]? = some (t.nv o).node := by
 obtain ⟨pre, post, rfl, hp⟩ := h
 have hb := t.zMc o
 rw [t.Xe, <- List.append_assoc, List.append_assoc, List.getElem?_append_right (by rw [List.length_append]; omega)]
 rw [List.length_append, show o + t.sz - 1 - (pre.length + (t.zMb o).length) = 0 by omega]
 rfl
theorem At.len {l : List Nd} {o : Nat} {t : Pt} (h : At l o t) : o + t.sz <= l.length := by
 obtain ⟨pre, post, rfl, hp⟩ := h
 simp only [List.length_append, Pt.fO]; omega
theorem At.top {l : List Nd} {o : Nat} {t : Pt} (h : At l o t) : inB (t.top o) l.length = true ∧ ∀ d, bA d l (t.top o) = (t.nv o).node := by
 have h1 := h.node
 have h2 := h.len
 have h3 := t.Tx
 have e : t.top o = ((o + t.sz - 1 : Nat) : Int) := by unfold Pt.top; omega
 rw [e]
 refine ⟨nU (by omega), fun d => ?_⟩
 rw [nN (by omega)]
 rw [List.getElem?_eq_getElem (by omega)] at h1
 exact Option.some.inj h1
end Go.Dec
namespace Go.Dec
section
variable {n : Nat} {l : List Nd} {st : List Pt}
def NV.parts : NV -> Nat
 | .cat _ _ | .alt _ _ => 2
 | .times _ _ _ | .group _ _ => 1
 | _ => 0
end
end Go.Dec
namespace Go.Dec
section
variable {n : Nat} {l : List Nd}
end
abbrev W4 : Type := Nat × Bool × List Bool × Bool
def W4.out (l : List Nd) (w : W4) : Option (List Nd × Int × Bool × List Bool × Bool × Unit) := some (l, (w.1 : Int), w.2.1, w.2.2.1, w.2.2.2, ())
def w0 : W4 := (0, true, vE, false)
end Go.Dec
namespace Go.Dec
theorem zCc {p : Nat -> Bool} {i : Nat} (hi : i < 256) (h : p i = true) : fA p = false := by
 cases he : fA p
 ·rfl
 ·have := kW he hi
  rw [h] at this; simp at this
end Go.Dec
