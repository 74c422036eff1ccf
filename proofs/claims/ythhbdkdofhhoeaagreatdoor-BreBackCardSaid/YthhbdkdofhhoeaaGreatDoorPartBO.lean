/- Part of a proof over this seat: a library of my own, and what it says of this seat. No statement is proved here. -/
import Derived.Test.YthhbdkdofhhoeaaGreatDoorPartBN
namespace Go.Dec
section
variable {n : Nat} {s r : List UInt8} {b : Nat} {en : List Bool} {l : List Nd} {rw' : List UInt8 × Int × StT -> Option (StT × Int)} {row : List UInt8 -> Nat -> List Bool -> Res (Option Pt)}
end
end Go.Dec
namespace Go.Dec
def Pt.kind : Pt -> Int
 | .empty => 0 | .bytes _ => 1 | .bol => 2 | .eol => 3 | .cat _ _ => 4 | .alt _ _ => 5 | .times _ _ _ => 6 | .group _ _ => 7 | .ref _ => 8
inductive NV where
 | empty | bol | eol
 | bytes (p : Nat -> Bool)
 | cat (a b : Int) | alt (a b : Int)
 | times (a lo hi : Int)
 | group (a : Int) (m : Nat)
 | ref (m : Nat)
def NV.node : NV -> Nd
 | .empty => (0, [0, 0, 0, 0], 0, 0, 0, 0, 0, ())
 | .bytes p => (1, wd p, 0, 0, 0, 0, 0, ())
 | .bol => (2, [0, 0, 0, 0], 0, 0, 0, 0, 0, ())
 | .eol => (3, [0, 0, 0, 0], 0, 0, 0, 0, 0, ())
 | .cat a b => (4, [0, 0, 0, 0], a, b, 0, 0, 0, ())
 | .alt a b => (5, [0, 0, 0, 0], a, b, 0, 0, 0, ())
 | .times a lo hi => (6, [0, 0, 0, 0], a, 0, lo, hi, 0, ())
 | .group a m => (7, [0, 0, 0, 0], a, 0, 0, 0, (m : Int), ())
 | .ref m => (8, [0, 0, 0, 0], 0, 0, 0, 0, (m : Int), ())
def gY (lo hi : Int) : Bool := decide (0 <= lo) && decide (lo <= 255) && (decide (hi = -1) || (decide (lo <= hi) && decide (1 <= hi) && decide (hi <= 255)))
def NV.ok : NV -> Bool
 | .bytes p => !dD p
 | .times _ lo hi => gY lo hi
 | .group _ m => decide (1 <= m) && decide (m <= 9)
 | .ref m => decide (1 <= m) && decide (m <= 9)
 | _ => true
def Cg (nd : Nd) : Prop := ∃ p, nd.2.1 = wd p
theorem Vt {x y : Nd} (h : x = y) : Ty.beq ak x y = true := (@beq_iff ak rfl x y).2 h
theorem Vu {x y : Nd} (h : ¬ x = y) : Ty.beq ak x y = false := beq_false (t := ak) rfl h
def R5 (nd : Nd) (e : Option Bool) : Prop := (e = some true ∧ ∃ v : NV, nd = v.node ∧ v.ok = true) ∨ (e = some false ∧ ∀ v : NV, nd = v.node -> v.ok = false)
theorem Ik (v : NV) : 0 <= v.node.1 ∧ v.node.1 <= 8 := by cases v <;> simp [NV.node]
section
variable {n : Nat} {w : List Int} {a b lo hi m : Int} {u : Unit}
theorem plain0 : bf n (0, w, a, b, lo, hi, m, u) = some (0, [0, 0, 0, 0], 0, 0, 0, 0, 0, ()) := by simp [bf]
theorem Uo : bf n (1, w, a, b, lo, hi, m, u) = some (1, w, 0, 0, 0, 0, 0, ()) := by simp [bf]
theorem Uq : bf n (2, w, a, b, lo, hi, m, u) = some (2, [0, 0, 0, 0], 0, 0, 0, 0, 0, ()) := by simp [bf]
theorem Ur : bf n (3, w, a, b, lo, hi, m, u) = some (3, [0, 0, 0, 0], 0, 0, 0, 0, 0, ()) := by simp [bf]
theorem Us : bf n (4, w, a, b, lo, hi, m, u) = some (4, [0, 0, 0, 0], a, b, 0, 0, 0, ()) := by simp [bf]
theorem Ut : bf n (5, w, a, b, lo, hi, m, u) = some (5, [0, 0, 0, 0], a, b, 0, 0, 0, ()) := by simp [bf]
theorem Uu : bf n (6, w, a, b, lo, hi, m, u) = some (6, [0, 0, 0, 0], a, 0, lo, hi, 0, ()) := by simp [bf]
theorem Uv : bf n (7, w, a, b, lo, hi, m, u) = some (7, [0, 0, 0, 0], a, 0, 0, 0, m, u) := by simp [bf]
theorem plain8 : bf n (8, w, a, b, lo, hi, m, u) = some (8, [0, 0, 0, 0], 0, 0, 0, 0, m, u) := by simp [bf]
end
theorem KI {n : Nat} {nd : Nd} (hw : Cg nd) : R5 nd (lJ n nd) := by
 obtain ⟨k, w, a, b, lo, hi, m, u⟩ := nd
 obtain ⟨p, hp⟩ := hw
 simp only at hp
 subst hp
 unfold lJ
 simp only
 by_cases h0 : k < 0
 ·rw [av (by simp; omega)]
  exact Or.inr ⟨rfl, fun v hv => by have := Ik v; rw [<- hv] at this; omega⟩
 rw [aj (by simp; omega)]
 by_cases h8 : k > 8
 ·rw [av (by simp; omega)]
  exact Or.inr ⟨rfl, fun v hv => by have := Ik v; rw [<- hv] at this; omega⟩
 rw [aj (by simp; omega)]
 have hcase : k = 0 ∨ k = 1 ∨ k = 2 ∨ k = 3 ∨ k = 4 ∨ k = 5 ∨ k = 6 ∨ k = 7 ∨ k = 8 := by omega
 have hbad : ∀ {nd' : Nd} {X : Option Bool}, (∀ v : NV, (k, wd p, a, b, lo, hi, m, u) = v.node -> (k, wd p, a, b, lo, hi, m, u) = nd') -> ¬ (k, wd p, a, b, lo, hi, m, u) = nd' -> R5 (k, wd p, a, b, lo, hi, m, u) (br (!(Ty.beq ak (k, wd p, a, b, lo, hi, m, u) nd')) (some false) X) := by
  intro nd' X h1 h2
  rw [Vu h2]
  exact Or.inr ⟨rfl, fun v hv => absurd (h1 v hv) h2⟩
 have hgood : ∀ {nd' : Nd} {X : Option Bool}, (k, wd p, a, b, lo, hi, m, u) = nd' -> (br (!(Ty.beq ak (k, wd p, a, b, lo, hi, m, u) nd')) (some false) X) = X := by
  intro nd' X h
  rw [Vt h]; rfl
 have hng : ∀ {m : Int} (v : NV), 1 <= m -> ∃ m' : Nat, m = (m' : Int) := fun {m} _ h => ⟨m.toNat, by omega⟩
 rcases hcase with rfl | rfl | rfl | rfl | rfl | rfl | rfl | rfl | rfl
 ·rw [plain0, aB]
  by_cases h : ((0 : Int), wd p, a, b, lo, hi, m, u) = ((0, [0, 0, 0, 0], 0, 0, 0, 0, 0, ()) : Nd)
  ·rw [hgood h]; exact Or.inl ⟨rfl, .empty, h, rfl⟩
  ·exact hbad (fun v hv => by rw [hv]; cases v <;> simp [NV.node] at hv ⊢) h
 ·rw [Uo, aB]
  by_cases h : ((1 : Int), wd p, a, b, lo, hi, m, u) = ((1, wd p, 0, 0, 0, 0, 0, ()) : Nd)
  ·rw [hgood h]
   rw [av (by rfl)]
   rw [nO]
   cases he : dD p
   ·exact Or.inl ⟨rfl, .bytes p, h, by simp [NV.ok, he]⟩
   ·refine Or.inr ⟨rfl, fun v hv => ?_⟩
    have e1 := congrArg (fun x : Nd => x.2.1) hv
    have e0 := congrArg (fun x : Nd => x.1) hv
    cases v <;> simp [NV.node] at e0 e1
    simp only [NV.ok]
    rw [<- nO, <- e1, nO, he]; rfl
  ·exact hbad (fun v hv => by rw [hv]; cases v <;> simp [NV.node] at hv ⊢; exact hv.1.symm) h
 ·rw [Uq, aB]
  by_cases h : ((2 : Int), wd p, a, b, lo, hi, m, u) = ((2, [0, 0, 0, 0], 0, 0, 0, 0, 0, ()) : Nd)
  ·rw [hgood h]; exact Or.inl ⟨rfl, .bol, h, rfl⟩
  ·exact hbad (fun v hv => by rw [hv]; cases v <;> simp [NV.node] at hv ⊢) h
 ·rw [Ur, aB]
  by_cases h : ((3 : Int), wd p, a, b, lo, hi, m, u) = ((3, [0, 0, 0, 0], 0, 0, 0, 0, 0, ()) : Nd)
  ·rw [hgood h]; exact Or.inl ⟨rfl, .eol, h, rfl⟩
  ·exact hbad (fun v hv => by rw [hv]; cases v <;> simp [NV.node] at hv ⊢) h
 ·rw [Us, aB]
  by_cases h : ((4 : Int), wd p, a, b, lo, hi, m, u) = ((4, [0, 0, 0, 0], a, b, 0, 0, 0, ()) : Nd)
  ·rw [hgood h]; exact Or.inl ⟨rfl, .cat a b, h, rfl⟩
  ·exact hbad (fun v hv => by rw [hv]; cases v <;> simp [NV.node] at hv ⊢; exact ⟨hv.2.1.symm, hv.2.2.1.symm⟩) h
 ·rw [Ut, aB]
  by_cases h : ((5 : Int), wd p, a, b, lo, hi, m, u) = ((5, [0, 0, 0, 0], a, b, 0, 0, 0, ()) : Nd)
  ·rw [hgood h]; exact Or.inl ⟨rfl, .alt a b, h, rfl⟩
  ·exact hbad (fun v hv => by rw [hv]; cases v <;> simp [NV.node] at hv ⊢; exact ⟨hv.2.1.symm, hv.2.2.1.symm⟩) h
 ·rw [Uu, aB]
  by_cases h : ((6 : Int), wd p, a, b, lo, hi, m, u) = ((6, [0, 0, 0, 0], a, 0, lo, hi, 0, ()) : Nd)
  ·rw [hgood h]
   rw [aj (by rfl), av (by rfl)]
   have e : (br (decide (lo ≥ 0)) (br (decide (lo <= 255)) (br (hi == -1) (some true) (br (decide (hi ≥ if 1 > lo then 1 else lo)) (some (decide (hi <= 255))) (some false))) (some false)) (some false)) = some (gY lo hi) := by
    unfold gY
    by_cases g1 : 0 <= lo
    ·rw [av (by simp; omega), decide_eq_true g1]
     by_cases g2 : lo <= 255
     ·rw [av (by simp; omega), decide_eq_true g2]
      by_cases g3 : hi = -1
      ·subst g3; rfl
      ·rw [aj (by simp; omega), decide_eq_false g3]
       by_cases g4 : lo <= hi
       ·by_cases g5 : 1 <= hi
        ·rw [av (by simp; split <;> omega), decide_eq_true g4, decide_eq_true g5]; rfl
        ·rw [aj (by simp; split <;> omega), decide_eq_false g5, decide_eq_true g4]; rfl
       ·rw [aj (by simp; split <;> omega), decide_eq_false g4]; rfl
     ·rw [aj (by simp; omega), decide_eq_false g2, Bool.and_false, Bool.false_and]
    ·rw [aj (by simp; omega), decide_eq_false g1]; rfl
   rw [e]
   cases ht : gY lo hi
   ·refine Or.inr ⟨rfl, fun v hv => ?_⟩
    have e1 := congrArg (fun x : Nd => x.2.2.2.2.1) hv
    have e2 := congrArg (fun x : Nd => x.2.2.2.2.2.1) hv
    have e0 := congrArg (fun x : Nd => x.1) hv
    cases v <;> simp [NV.node] at e0 e1 e2
    simp only [NV.ok]
    rw [<- e1, <- e2]; exact ht
   ·exact Or.inl ⟨rfl, .times a lo hi, h, ht⟩
  ·exact hbad (fun v hv => by rw [hv]; cases v <;> simp [NV.node] at hv ⊢; exact ⟨hv.2.1.symm, hv.2.2.2.1.symm, hv.2.2.2.2.1.symm⟩) h
 ·rw [Uv, aB]
  by_cases h : ((7 : Int), wd p, a, b, lo, hi, m, u) = ((7, [0, 0, 0, 0], a, 0, 0, 0, m, u) : Nd)
  ·rw [hgood h]
   rw [aj (by rfl), aj (by rfl), av (by rfl), av (by rfl)]
   by_cases g1 : 1 <= m
   ·rw [av (by simp; omega)]
    by_cases g2 : m <= 9
    ·obtain ⟨m', rfl⟩ : ∃ m' : Nat, m = (m' : Int) := ⟨m.toNat, by omega⟩
     rw [decide_eq_true g2]
     exact Or.inl ⟨rfl, .group a m', h, by simp [NV.ok]; omega⟩
    ·rw [decide_eq_false g2]
     refine Or.inr ⟨rfl, fun v hv => ?_⟩
     have e1 := congrArg (fun x : Nd => x.2.2.2.2.2.2.1) hv
     have e0 := congrArg (fun x : Nd => x.1) hv
     cases v <;> simp [NV.node] at e0 e1
     simp [NV.ok]; omega
   ·rw [aj (by simp; omega)]
    refine Or.inr ⟨rfl, fun v hv => ?_⟩
    have e1 := congrArg (fun x : Nd => x.2.2.2.2.2.2.1) hv
    have e0 := congrArg (fun x : Nd => x.1) hv
    cases v <;> simp [NV.node] at e0 e1
    simp [NV.ok]; omega
  ·exact hbad (fun v hv => by rw [hv]; cases v <;> simp [NV.node] at hv ⊢; exact ⟨hv.2.1.symm, hv.2.2.2.2.2.symm⟩) h
 ·rw [plain8, aB]
  by_cases h : ((8 : Int), wd p, a, b, lo, hi, m, u) = ((8, [0, 0, 0, 0], 0, 0, 0, 0, m, u) : Nd)
  ·rw [hgood h]
   rw [aj (by rfl), aj (by rfl), aj (by rfl), av (by rfl)]
   by_cases g1 : 1 <= m
   ·rw [av (by simp; omega)]
    by_cases g2 : m <= 9
    ·obtain ⟨m', rfl⟩ : ∃ m' : Nat, m = (m' : Int) := ⟨m.toNat, by omega⟩
     rw [decide_eq_true g2]
     exact Or.inl ⟨rfl, .ref m', h, by simp [NV.ok]; omega⟩
    ·rw [decide_eq_false g2]
     refine Or.inr ⟨rfl, fun v hv => ?_⟩
     have e1 := congrArg (fun x : Nd => x.2.2.2.2.2.2.1) hv
     have e0 := congrArg (fun x : Nd => x.1) hv
     cases v <;> simp [NV.node] at e0 e1
     simp [NV.ok]; omega
   ·rw [aj (by simp; omega)]
    refine Or.inr ⟨rfl, fun v hv => ?_⟩
    have e1 := congrArg (fun x : Nd => x.2.2.2.2.2.2.1) hv
    have e0 := congrArg (fun x : Nd => x.1) hv
    cases v <;> simp [NV.node] at e0 e1
    simp [NV.ok]; omega
  ·exact hbad (fun v hv => by rw [hv]; cases v <;> simp [NV.node] at hv ⊢; exact hv.2.2.2.2.2.symm) h
end Go.Dec
namespace Go.Dec
def Pt.nv (o : Nat) : Pt -> NV
 | .empty => .empty
 | .bytes p => .bytes p
 | .bol => .bol
 | .eol => .eol
 | .cat a b => .cat (a.top o) (b.top (o + a.sz))
 | .alt a b => .alt (a.top o) (b.top (o + a.sz))
 | .times a lo hi => .times (a.top o) lo hi
 | .group a m => .group (a.top o) m
 | .ref m => .ref m
def Pt.Rh (o : Nat) : Pt -> List Nd
 | .cat a b => a.enc o ++ b.enc (o + a.sz)
 | .alt a b => a.enc o ++ b.enc (o + a.sz)
 | .times a _ _ => a.enc o
 | .group a _ => a.enc o
 | _ => []
theorem Pt.Il (o : Nat) (t : Pt) : t.enc o = t.Rh o ++ [(t.nv o).node] := by
 cases t <;> rfl
theorem Pt.Ri (o : Nat) (t : Pt) : (t.Rh o).length + 1 = t.sz := by
 have := t.bD o
 rw [t.Il] at this
 simpa using this
theorem Pt.CP (o : Nat) (t : Pt) : (t.nv o).node.1 = t.kind := by cases t <;> rfl
def At (l : List Nd) (o : Nat) (t : Pt) : Prop := ∃ pre post, l = pre ++ t.enc o ++ post ∧ pre.length = o
theorem At.node {l : List Nd} {o : Nat} {t : Pt} (h : At l o t) : l[o + t.sz - 1]? = some (t.nv o).node := by
 obtain ⟨pre, post, rfl, hp⟩ := h
 have hb := t.Ri o
 rw [t.Il, <- List.append_assoc, List.append_assoc, List.getElem?_append_right (by rw [List.length_append]; omega)]
 rw [List.length_append, show o + t.sz - 1 - (pre.length + (t.Rh o).length) = 0 by omega]
 rfl
theorem At.len {l : List Nd} {o : Nat} {t : Pt} (h : At l o t) : o + t.sz <= l.length := by
 obtain ⟨pre, post, rfl, hp⟩ := h
 simp only [List.length_append, Pt.bD]; omega
theorem At.top {l : List Nd} {o : Nat} {t : Pt} (h : At l o t) : inB (t.top o) l.length = true ∧ ∀ d, aW d l (t.top o) = (t.nv o).node := by
 have h1 := h.node
 have h2 := h.len
 have h3 := t.dL
 have e : t.top o = ((o + t.sz - 1 : Nat) : Int) := by unfold Pt.top; omega
 rw [e]
 refine ⟨iQ (by omega), fun d => ?_⟩
 rw [iw (by omega)]
 rw [List.getElem?_eq_getElem (by omega)] at h1
 exact Option.some.inj h1
theorem At.GJ {l : List Nd} {o : Nat} {a b : Pt} (h : At l o (.cat a b)) : At l o a ∧ At l (o + a.sz) b := by
 obtain ⟨pre, post, rfl, hp⟩ := h
 exact ⟨⟨pre, b.enc (o + a.sz) ++ ([(Pt.nv o (.cat a b)).node] ++ post), by simp [Pt.enc, Pt.nv, NV.node], hp⟩, ⟨pre ++ a.enc o, [(Pt.nv o (.cat a b)).node] ++ post, by simp [Pt.enc, Pt.nv, NV.node], by rw [List.length_append, Pt.bD, hp]⟩⟩
theorem At.alt1 {l : List Nd} {o : Nat} {a b : Pt} (h : At l o (.alt a b)) : At l o a ∧ At l (o + a.sz) b := by
 obtain ⟨pre, post, rfl, hp⟩ := h
 exact ⟨⟨pre, b.enc (o + a.sz) ++ ([(Pt.nv o (.alt a b)).node] ++ post), by simp [Pt.enc, Pt.nv, NV.node], hp⟩, ⟨pre ++ a.enc o, [(Pt.nv o (.alt a b)).node] ++ post, by simp [Pt.enc, Pt.nv, NV.node], by rw [List.length_append, Pt.bD, hp]⟩⟩
theorem At.KJ {l : List Nd} {o : Nat} {a : Pt} {lo hi : Int} (h : At l o (.times a lo hi)) : At l o a := by
 obtain ⟨pre, post, rfl, hp⟩ := h
 exact ⟨pre, [(Pt.nv o (.times a lo hi)).node] ++ post, by simp [Pt.enc, Pt.nv, NV.node], hp⟩
theorem At.KL {l : List Nd} {o : Nat} {a : Pt} {m : Nat} (h : At l o (.group a m)) : At l o a := by
 obtain ⟨pre, post, rfl, hp⟩ := h
 exact ⟨pre, [(Pt.nv o (.group a m)).node] ++ post, by simp [Pt.enc, Pt.nv, NV.node], hp⟩
theorem At.self (t : Pt) : At (t.enc 0) 0 t := ⟨[], [], by simp, rfl⟩
def bQ : Pt -> Bool
 | .bytes p => !dD p
 | .cat a b => bQ a && bQ b
 | .alt a b => bQ a && bQ b
 | .times a lo hi => bQ a && gY lo hi
 | .group a m => bQ a && (decide (1 <= m) && decide (m <= 9))
 | .ref m => decide (1 <= m) && decide (m <= 9)
 | _ => true
def kI : Pt -> Bool
 | .cat a b => kI a && kI b && (decide (a.kind ≠ 4) && decide (a.kind ≠ 5) && decide (b.kind ≠ 5))
 | .alt a b => kI a && kI b && decide (a.kind ≠ 5)
 | .times a _ _ => kI a && (decide (a.kind = 1) || decide (a.kind = 7) || decide (a.kind = 8))
 | .group a _ => kI a
 | _ => true
def j4 : Pt -> Bool
 | .empty => false
 | .cat a b => j4 a && j4 b
 | .alt a b => j4 a && j4 b
 | .times a _ _ => j4 a
 | .group a _ => j4 a
 | _ => true
def encR : List Pt -> List Nd
 | [] => []
 | t :: st => encR st ++ t.enc (szA st)
def dJ : List Pt -> List Int
 | [] => []
 | t :: st => dJ st ++ [t.top (szA st)]
theorem sN : ∀ st : List Pt, (encR st).length = szA st
 | [] => rfl
 | t :: st => by simp only [encR, szA, List.length_append, sN st, Pt.bD]; omega
theorem j5 : ∀ st : List Pt, (dJ st).length = st.length
 | [] => rfl
 | t :: st => by simp only [dJ, List.length_append, j5 st, List.length_cons, List.length_nil]
def fK (len : Nat) (st : List Pt) (v : NV) : Option (List Pt) :=
 match v with
 | .empty => if len > 1 then none else some (.empty :: st)
 | .bytes p => some (.bytes p :: st)
 | .bol => some (.bol :: st)
 | .eol => some (.eol :: st)
 | .ref m => some (.ref m :: st)
 | .cat x y => match st with
  | b :: a :: st' => if a.top (szA st') = x ∧ b.top (szA st' + a.sz) = y ∧ a.kind ≠ 4 ∧ a.kind ≠ 5 ∧ b.kind ≠ 5 then some (.cat a b :: st') else none
  | _ => none
 | .alt x y => match st with
  | b :: a :: st' => if a.top (szA st') = x ∧ b.top (szA st' + a.sz) = y ∧ a.kind ≠ 5 then some (.alt a b :: st') else none
  | _ => none
 | .times x lo hi => match st with
  | a :: st' => if a.top (szA st') = x ∧ (a.kind = 1 ∨ a.kind = 7 ∨ a.kind = 8) then some (.times a lo hi :: st') else none
  | _ => none
 | .group x m => match st with
  | a :: st' => if a.top (szA st') = x then some (.group a m :: st') else none
  | _ => none
theorem sO (st : List Pt) (a : Pt) : szA (a :: st) = szA st + a.sz := by simp only [szA]; omega
theorem xE {len : Nat} {st st2 : List Pt} {v : NV} (h : fK len st v = some st2) : encR st2 = encR st ++ [v.node] := by
 unfold fK at h
 cases v <;> simp only at h
 case empty => split at h <;> simp at h; subst h; rfl
 case bytes p => simp at h; subst h; rfl
 case bol => simp at h; subst h; rfl
 case eol => simp at h; subst h; rfl
 case ref m => simp at h; subst h; rfl
 case cat x y =>
  match st, h with
  | [], h => simp at h
  | [_], h => simp at h
  | b :: a :: st', h =>
   simp only at h
   split at h <;> simp at h
   rename_i hc
   subst h
   simp only [encR, Pt.enc, sO, List.append_assoc, NV.node, hc.1, hc.2.1]
 case alt x y =>
  match st, h with
  | [], h => simp at h
  | [_], h => simp at h
  | b :: a :: st', h =>
   simp only at h
   split at h <;> simp at h
   rename_i hc
   subst h
   simp only [encR, Pt.enc, sO, List.append_assoc, NV.node, hc.1, hc.2.1]
 case times x lo hi =>
  match st, h with
  | [], h => simp at h
  | a :: st', h =>
   simp only at h
   split at h <;> simp at h
   rename_i hc
   subst h
   simp only [encR, Pt.enc, List.append_assoc, NV.node, hc.1]
 case group x m =>
  match st, h with
  | [], h => simp at h
  | a :: st', h =>
   simp only at h
   split at h <;> simp at h
   rename_i hc
   subst h
   simp only [encR, Pt.enc, List.append_assoc, NV.node, hc]
def uo (len : Nat) (t : Pt) : Prop := bQ t = true ∧ kI t = true ∧ (len > 1 -> j4 t = true)
theorem Rj {len : Nat} {st st2 : List Pt} {v : NV} (hv : v.ok = true) (hst : ∀ t ∈ st, uo len t) (h : fK len st v = some st2) : ∀ t ∈ st2, uo len t := by
 unfold fK at h
 cases v <;> simp only at h
 case empty =>
  split at h <;> simp at h; subst h
  rename_i hl
  intro t ht
  rcases List.mem_cons.1 ht with rfl | ht
  ·exact ⟨rfl, rfl, fun h => absurd h hl⟩
  ·exact hst t ht
 case bytes p => simp at h; subst h; intro t ht; rcases List.mem_cons.1 ht with rfl | ht; exact ⟨hv, rfl, fun _ => rfl⟩; exact hst t ht
 case bol => simp at h; subst h; intro t ht; rcases List.mem_cons.1 ht with rfl | ht; exact ⟨rfl, rfl, fun _ => rfl⟩; exact hst t ht
 case eol => simp at h; subst h; intro t ht; rcases List.mem_cons.1 ht with rfl | ht; exact ⟨rfl, rfl, fun _ => rfl⟩; exact hst t ht
 case ref m => simp at h; subst h; intro t ht; rcases List.mem_cons.1 ht with rfl | ht; exact ⟨hv, rfl, fun _ => rfl⟩; exact hst t ht
 case cat x y =>
  match st, h with
  | [], h => simp at h
  | [_], h => simp at h
  | b :: a :: st', h =>
   simp only at h
   split at h <;> simp at h
   rename_i hc
   subst h
   intro t ht
   have ha := hst a (by simp)
   have hb := hst b (by simp)
   rcases List.mem_cons.1 ht with rfl | ht
   ·exact ⟨by simp [bQ, ha.1, hb.1], by simp [kI, ha.2.1, hb.2.1, hc.2.2.1, hc.2.2.2.1, hc.2.2.2.2], fun hl => by simp [j4, ha.2.2 hl, hb.2.2 hl]⟩
   ·exact hst t (by simp [ht])
 case alt x y =>
  match st, h with
  | [], h => simp at h
  | [_], h => simp at h
  | b :: a :: st', h =>
   simp only at h
   split at h <;> simp at h
   rename_i hc
   subst h
   intro t ht
   have ha := hst a (by simp)
   have hb := hst b (by simp)
   rcases List.mem_cons.1 ht with rfl | ht
   ·exact ⟨by simp [bQ, ha.1, hb.1], by simp [kI, ha.2.1, hb.2.1, hc.2.2], fun hl => by simp [j4, ha.2.2 hl, hb.2.2 hl]⟩
   ·exact hst t (by simp [ht])
 case times x lo hi =>
  match st, h with
  | [], h => simp at h
  | a :: st', h =>
   simp only at h
   split at h <;> simp at h
   rename_i hc
   subst h
   intro t ht
   have ha := hst a (by simp)
   rcases List.mem_cons.1 ht with rfl | ht
   ·refine ⟨by simp only [bQ, ha.1, Bool.true_and]; exact hv, ?_, fun hl => by simp [j4, ha.2.2 hl]⟩
    simp only [kI, ha.2.1, Bool.true_and, Bool.or_eq_true, decide_eq_true_eq]
    rcases hc.2 with h | h | h
    ·exact Or.inl (Or.inl h)
    ·exact Or.inl (Or.inr h)
    ·exact Or.inr h
   ·exact hst t (by simp [ht])
 case group x m =>
  match st, h with
  | [], h => simp at h
  | a :: st', h =>
   simp only at h
   split at h <;> simp at h
   rename_i hc
   subst h
   intro t ht
   have ha := hst a (by simp)
   rcases List.mem_cons.1 ht with rfl | ht
   ·exact ⟨by simp only [bQ, ha.1, Bool.true_and]; exact hv, by simp [kI, ha.2.1], fun hl => by simp [j4, ha.2.2 hl]⟩
   ·exact hst t (by simp [ht])
def kC (len : Nat) : List NV -> List Pt -> Option (List Pt)
 | [], st => some st
 | v :: vs, st => match fK len st v with
  | none => none
  | some st2 => kC len vs st2
theorem nR (len : Nat) : ∀ (a b : List NV) (st : List Pt), kC len (a ++ b) st = (kC len a st).bind (kC len b)
 | [], b, st => rfl
 | v :: a, b, st => by
  simp only [List.cons_append, kC]
  cases fK len st v with
  | none => rfl
  | some st2 => exact nR len a b st2
def Pt.nvs (o : Nat) : Pt -> List NV
 | .cat a b => a.nvs o ++ b.nvs (o + a.sz) ++ [.cat (a.top o) (b.top (o + a.sz))]
 | .alt a b => a.nvs o ++ b.nvs (o + a.sz) ++ [.alt (a.top o) (b.top (o + a.sz))]
 | .times a lo hi => a.nvs o ++ [.times (a.top o) lo hi]
 | .group a m => a.nvs o ++ [.group (a.top o) m]
 | .empty => [.empty]
 | .bytes p => [.bytes p]
 | .bol => [.bol]
 | .eol => [.eol]
 | .ref m => [.ref m]
theorem qF : ∀ (t : Pt) (o : Nat), (t.nvs o).map NV.node = t.enc o
 | .cat a b, o => by simp [Pt.nvs, Pt.enc, qF a, qF b, NV.node]
 | .alt a b, o => by simp [Pt.nvs, Pt.enc, qF a, qF b, NV.node]
 | .times a _ _, o => by simp [Pt.nvs, Pt.enc, qF a, NV.node]
 | .group a _, o => by simp [Pt.nvs, Pt.enc, qF a, NV.node]
 | .empty, _ | .bytes _, _ | .bol, _ | .eol, _ | .ref _, _ => rfl
theorem wS : ∀ (t : Pt) (o : Nat), bQ t = true -> ∀ v ∈ t.nvs o, v.ok = true
 | .cat a b, o, h, v, hv => by
  simp only [bQ, Bool.and_eq_true] at h
  simp only [Pt.nvs, List.mem_append, List.mem_singleton] at hv
  rcases hv with (hv | hv) | rfl
  ·exact wS a o h.1 v hv
  ·exact wS b _ h.2 v hv
  ·rfl
 | .alt a b, o, h, v, hv => by
  simp only [bQ, Bool.and_eq_true] at h
  simp only [Pt.nvs, List.mem_append, List.mem_singleton] at hv
  rcases hv with (hv | hv) | rfl
  ·exact wS a o h.1 v hv
  ·exact wS b _ h.2 v hv
  ·rfl
 | .times a lo hi, o, h, v, hv => by
  simp only [bQ, Bool.and_eq_true] at h
  simp only [Pt.nvs, List.mem_append, List.mem_singleton] at hv
  rcases hv with hv | rfl
  ·exact wS a o h.1 v hv
  ·exact h.2
 | .group a m, o, h, v, hv => by
  simp only [bQ, Bool.and_eq_true] at h
  simp only [Pt.nvs, List.mem_append, List.mem_singleton] at hv
  rcases hv with hv | rfl
  ·exact wS a o h.1 v hv
  ·simp only [NV.ok, Bool.and_eq_true]; exact h.2
 | .empty, _, h, v, hv => by simp only [Pt.nvs, List.mem_singleton] at hv; subst hv; rfl
 | .bytes _, _, h, v, hv => by simp only [Pt.nvs, List.mem_singleton] at hv; subst hv; exact h
 | .bol, _, h, v, hv => by simp only [Pt.nvs, List.mem_singleton] at hv; subst hv; rfl
 | .eol, _, h, v, hv => by simp only [Pt.nvs, List.mem_singleton] at hv; subst hv; rfl
 | .ref _, _, h, v, hv => by simp only [Pt.nvs, List.mem_singleton] at hv; subst hv; exact h
theorem mK (len : Nat) : ∀ (t : Pt) (st : List Pt), kI t = true -> (len > 1 -> j4 t = true) -> kC len (t.nvs (szA st)) st = some (t :: st)
 | .cat a b, st, h, hn => by
  simp only [kI, Bool.and_eq_true, decide_eq_true_eq] at h
  simp only [j4, Bool.and_eq_true] at hn
  have ha := mK len a st h.1.1 (fun hl => (hn hl).1)
  have hb := mK len b (a :: st) h.1.2 (fun hl => (hn hl).2)
  rw [sO] at hb
  simp only [Pt.nvs]
  rw [nR, nR, ha]
  simp only [Option.bind_some]
  rw [hb]
  simp only [Option.bind_some, kC, fK]
  rw [if_pos (by refine ⟨?_, ?_, h.2.1.1, h.2.1.2, h.2.2⟩ <;> first | trivial | rfl)]
 | .alt a b, st, h, hn => by
  simp only [kI, Bool.and_eq_true, decide_eq_true_eq] at h
  simp only [j4, Bool.and_eq_true] at hn
  have ha := mK len a st h.1.1 (fun hl => (hn hl).1)
  have hb := mK len b (a :: st) h.1.2 (fun hl => (hn hl).2)
  rw [sO] at hb
  simp only [Pt.nvs]
  rw [nR, nR, ha]
  simp only [Option.bind_some]
  rw [hb]
  simp only [Option.bind_some, kC, fK]
  rw [if_pos (by refine ⟨?_, ?_, h.2⟩ <;> first | trivial | rfl)]
 | .times a lo hi, st, h, hn => by
  simp only [kI, Bool.and_eq_true, Bool.or_eq_true, decide_eq_true_eq] at h
  simp only [j4] at hn
  have ha := mK len a st h.1 hn
  simp only [Pt.nvs]
  rw [nR, ha]
  simp only [Option.bind_some, kC, fK]
  rw [if_pos (by refine ⟨?_, by rcases h.2 with (h | h) | h; exact Or.inl h; exact Or.inr (Or.inl h); exact Or.inr (Or.inr h)⟩; first | trivial | rfl)]
 | .group a m, st, h, hn => by
  simp only [kI] at h
  simp only [j4] at hn
  have ha := mK len a st h hn
  simp only [Pt.nvs]
  rw [nR, ha]
  simp only [Option.bind_some, kC, fK]
  rw [if_pos (by first | trivial | rfl)]
 | .empty, st, h, hn => by
  simp only [Pt.nvs, kC, fK]
  rw [if_neg (fun hl => by simp [j4] at hn; omega)]
 | .bytes _, st, _, _ => rfl
 | .bol, st, _, _ => rfl
 | .eol, st, _, _ => rfl
 | .ref _, st, _, _ => rfl
end Go.Dec
namespace Go.Dec
theorem Uw {n : Nat} (hn : 5 <= n) {k : Int} (hk : 0 <= k) (hk8 : k <= 8) : ku n ([1, 7, 8], k) = some (decide (k = 1) || decide (k = 7) || decide (k = 8)) := by
 obtain ⟨n, rfl⟩ : ∃ m, n = m + 5 := ⟨n - 5, by omega⟩
 have hcase : k = 0 ∨ k = 1 ∨ k = 2 ∨ k = 3 ∨ k = 4 ∨ k = 5 ∨ k = 6 ∨ k = 7 ∨ k = 8 := by omega
 rcases hcase with rfl | rfl | rfl | rfl | rfl | rfl | rfl | rfl | rfl <;> rfl
theorem KM (t : Pt) : 0 <= t.kind ∧ t.kind <= 8 := by cases t <;> simp [Pt.kind]
section
variable {n : Nat} {l : List Nd} {st : List Pt}
theorem PD {i : Nat} {a b : Pt} (h : encR (b :: a :: st) = l.take i) : At l (szA st) a ∧ At l (szA st + a.sz) b := by
 have hl : l = encR (b :: a :: st) ++ l.drop i := by rw [h, List.take_append_drop]
 simp only [encR] at hl
 refine ⟨⟨encR st, b.enc (szA st + a.sz) ++ l.drop i, ?_, sN st⟩, ⟨encR st ++ a.enc (szA st), l.drop i, ?_, by rw [List.length_append, sN, Pt.bD]⟩⟩
 ·rw [sO] at hl; rw [List.append_assoc] at hl ⊢; rw [List.append_assoc] at hl; exact hl
 ·rw [sO] at hl; exact hl
theorem at_one {i : Nat} {a : Pt} (h : encR (a :: st) = l.take i) : At l (szA st) a := by
 have hl : l = encR (a :: st) ++ l.drop i := by rw [h, List.take_append_drop]
 exact ⟨encR st, l.drop i, hl, sN st⟩
theorem qG {v : NV} (h : v.node.1 ≠ 4) (h2 : v.node.1 ≠ 5) (h3 : v.node.1 ≠ 6) : gW n (l, v.node) = some true := by
 unfold gW
 simp only
 rw [aj (by simpa using h), aj (by simpa using h2), aj (by simpa using h3)]
theorem Rk {oa ob' : Nat} {a b : Pt} (ha : At l oa a) (hb : At l ob' b) : gW n (l, (NV.cat (a.top oa) (b.top ob')).node) = some (decide (a.kind ≠ 4 ∧ a.kind ≠ 5 ∧ b.kind ≠ 5)) := by
 unfold gW
 simp only [NV.node]
 rw [av (by rfl), ah ha.top.1, ha.top.2, Pt.CP, ah ha.top.1, ah hb.top.1, hb.top.2, Pt.CP]
 by_cases h1 : a.kind = 4
 ·rw [aj (by simp [h1]), decide_eq_false (by intro h; exact h.1 h1)]
 ·rw [av (by simpa using h1)]
  by_cases h2 : a.kind = 5
  ·rw [aj (by simp [h2]), decide_eq_false (by intro h; exact h.2.1 h2)]
  ·rw [av (by simpa using h2)]
   congr 1
   rw [Bool.eq_iff_iff]; simp [h1, h2]
theorem Rl {oa : Nat} {y : Int} {a : Pt} (ha : At l oa a) : gW n (l, (NV.alt (a.top oa) y).node) = some (decide (a.kind ≠ 5)) := by
 unfold gW
 simp only [NV.node]
 rw [aj (by rfl), av (by rfl), ah ha.top.1, ha.top.2, Pt.CP]
 congr 1
 rw [Bool.eq_iff_iff]; simp
theorem N8 {oa : Nat} {lo hi : Int} {a : Pt} (hn : 5 <= n) (ha : At l oa a) : gW n (l, (NV.times (a.top oa) lo hi).node) = some (decide (a.kind = 1) || decide (a.kind = 7) || decide (a.kind = 8)) := by
 unfold gW
 simp only [NV.node]
 rw [aj (by rfl), aj (by rfl), av (by rfl), ah ha.top.1, ha.top.2, Pt.CP, Uw hn (KM a).1 (KM a).2]
 rfl
def NV.parts : NV -> Nat
 | .cat _ _ | .alt _ _ => 2
 | .times _ _ _ | .group _ _ => 1
 | _ => 0
theorem parts_eq (v : NV) : fC n v.node = some (v.parts : Int) := by cases v <;> rfl
theorem GL (a : Pt) : (dJ (a :: st)).take st.length = dJ st := by
 simp only [dJ]; rw [List.take_append_of_le_length (by rw [j5]; omega), List.take_of_length_le (by rw [j5]; omega)]
theorem KN (a b : Pt) : (dJ (b :: a :: st)).take st.length = dJ st := by
 rw [dJ, List.take_append_of_le_length (by rw [j5]; simp), GL]
theorem GN (a : Pt) : (dJ (a :: st)).getD (0 + st.length + 0) 0 = a.top (szA st) := by
 rw [dJ, List.getD_eq_getElem?_getD, List.getElem?_append_right (by rw [j5]; omega), j5]; simp
theorem KO (a b : Pt) : (dJ (b :: a :: st)).getD (0 + st.length + 0) 0 = a.top (szA st) := by
 rw [dJ, List.getD_eq_getElem?_getD, List.getElem?_append_left (by rw [j5]; simp), <- List.getD_eq_getElem?_getD, GN]
theorem KP (a b : Pt) : (dJ (b :: a :: st)).getD (0 + st.length + 1) 0 = b.top (szA st + a.sz) := by
 rw [dJ, List.getD_eq_getElem?_getD, List.getElem?_append_right (by rw [j5]; simp), j5, sO]; simp
theorem KQ {g : List Nd × List Nd × Int × Int × List Int × Unit -> Option Bool} {i : Nat} {v : NV} (hn : 5 <= n) (hl : l.length < 1000000) (hi : i < l.length) (hv : l[i]? = some v.node) (hok : v.ok = true) (hw : Cg v.node) (hst : st.length <= i) (hsz : szA st = i) (he : encR st = l.take i) :
  dU n g (l, l, (l.length : Int), (i : Int), dJ st, ()) = match fK l.length st v with
   | none => some false
   | some st2 => g (l, l, (l.length : Int), ((i + 1 : Nat) : Int), dJ st2, ()) := by
 unfold dU
 simp only
 have hget : ∀ d, aW d l (i : Int) = v.node := by
  intro d
  rw [iw hi]
  rw [List.getElem?_eq_getElem hi] at hv
  exact Option.some.inj hv
 rw [av (by simp; omega), ah (iQ hi), hget, parts_eq]
 simp only [aB]
 have hone : lJ n v.node = some true := by
  rcases KI (n := n) hw with ⟨h, _⟩ | ⟨_, h⟩
  ·exact h
  ·have := h v rfl; rw [hok] at this; exact absurd this (by simp)
 rw [hone]
 simp only [aB, Bool.not_true, aU]
 have hi1 : IntKind.wrap .i64 ((i : Int) + 1) = ((i + 1 : Nat) : Int) := by rw [bK (by omega) (by omega)]; rfl
 have hlen := j5 st
 have hfin : ∀ (v0 : NV) (k : Nat) (st2 : List Pt), k <= st.length -> dJ st2 = (dJ st).take k ++ [(i : Int)] ->
   chk ((decide ((0 : Int) <= (k : Int)) && decide ((k : Int) <= (st.length : Int)))) (
     chk ((Nat.ble ((k : Int).toNat) st.length && Nat.ble ((((k : Int).toNat) + ([(i : Int)] : List Int).length) * 8) room)) (
      g (l, l, (l.length : Int), IntKind.wrap .i64 ((i : Int) + 1), (dJ st).take ((k : Int).toNat) ++ [(i : Int)], ()))) = g (l, l, (l.length : Int), ((i + 1 : Nat) : Int), dJ st2, ()) := by
  intro v0 k st2 hk h2
  rw [ah (by simp; omega), ah (by simp [room]; omega), hi1, Int.toNat_natCast, h2]
 have hd : Ty.dflt (.int .i64) = (0 : Int) := rfl
 have hK : ∀ (p : Nat), p <= st.length -> IntKind.wrap .i64 (((st.length : Nat) : Int) - (p : Int)) = ((st.length - p : Nat) : Int) := by
  intro p hp; rw [bK (by omega) (by omega)]; omega
 have htop : ∀ t : Pt, t.sz = 1 -> dJ (t :: st) = (dJ st).take st.length ++ [(i : Int)] := by
  intro t ht
  rw [List.take_of_length_le (by omega)]
  simp only [dJ, Pt.top, ht, hsz]; congr 2; omega
 rw [hlen]
 have hcut : ∀ (p : Nat), p <= st.length -> ((st.length - ((st.length - p : Nat) : Int).toNat : Nat) : Int) = (p : Int) := by
  intro p hp; rw [Int.toNat_natCast]; omega
 cases v with
 | empty =>
  rw [show (NV.empty).parts = 0 from rfl, hK 0 (by omega), aj (by simp), av (by rfl)]
  by_cases h1 : l.length > 1
  ·rw [av (by simp; omega)]; simp only [fK]; rw [if_pos h1]
  ·rw [aj (by simp; omega), ah (by simp), hcut 0 (by omega), aj (by simp), qG (by simp [NV.node]) (by simp [NV.node]) (by simp [NV.node])]
   simp only [aB, Bool.not_true, aU, fK]
   rw [if_neg h1]
   exact hfin .empty _ _ (by omega) (htop .empty rfl)
 | bytes p =>
  rw [show (NV.bytes p).parts = 0 from rfl, hK 0 (by omega), aj (by simp), aj (by rfl), ah (by simp), hcut 0 (by omega), aj (by simp), qG (by simp [NV.node]) (by simp [NV.node]) (by simp [NV.node])]
  simp only [aB, Bool.not_true, aU, fK]
  exact hfin .empty _ _ (by omega) (htop (.bytes p) rfl)
 | bol =>
  rw [show (NV.bol).parts = 0 from rfl, hK 0 (by omega), aj (by simp), aj (by rfl), ah (by simp), hcut 0 (by omega), aj (by simp), qG (by simp [NV.node]) (by simp [NV.node]) (by simp [NV.node])]
  simp only [aB, Bool.not_true, aU, fK]
  exact hfin .empty _ _ (by omega) (htop .bol rfl)
 | eol =>
  rw [show (NV.eol).parts = 0 from rfl, hK 0 (by omega), aj (by simp), aj (by rfl), ah (by simp), hcut 0 (by omega), aj (by simp), qG (by simp [NV.node]) (by simp [NV.node]) (by simp [NV.node])]
  simp only [aB, Bool.not_true, aU, fK]
  exact hfin .empty _ _ (by omega) (htop .eol rfl)
 | ref m =>
  rw [show (NV.ref m).parts = 0 from rfl, hK 0 (by omega), aj (by simp), aj (by rfl), ah (by simp), hcut 0 (by omega), aj (by simp), qG (by simp [NV.node]) (by simp [NV.node]) (by simp [NV.node])]
  simp only [aB, Bool.not_true, aU, fK]
  exact hfin .empty _ _ (by omega) (htop (.ref m) rfl)
 | times x lo hi =>
  cases st with
  | nil => rfl
  | cons a st =>
   have ha : At l (szA st) a := at_one he
   rw [show (NV.times x lo hi).parts = 1 from rfl, hK 1 (by simp), aj (by simp), aj (by rfl), ah (by simp; omega), hcut 1 (by simp), av (by rfl)]
   simp only [List.length_cons, Nat.add_sub_cancel, Int.toNat_natCast]
   rw [ah (by simp [inB]), ah (by simp), hd, show (0 : Int).toNat = 0 from rfl, GN]
   simp only [fK, NV.node]
   by_cases hx : a.top (szA st) = x
   ·subst hx
    rw [aj (by simp), aj (by rfl)]
    have hf := N8 (n := n) (lo := lo) (hi := hi) hn ha
    simp only [NV.node] at hf
    rw [hf]
    simp only [aB]
    have hlt := a.dL
    by_cases hk : a.kind = 1 ∨ a.kind = 7 ∨ a.kind = 8
    ·rw [if_pos ⟨trivial, hk⟩, aj (by rcases hk with h | h | h <;> simp [h])]
     have e : dJ (.times a lo hi :: st) = (dJ (a :: st)).take st.length ++ [(i : Int)] := by
      rw [GL]; simp only [dJ, Pt.top, Pt.sz]; rw [sO] at hsz; congr 2; omega
     have := hfin .empty st.length (.times a lo hi :: st) (by simp) e
     simpa using this
    ·rw [if_neg (fun h => hk h.2), av (by simp only [not_or] at hk; simp [hk.1, hk.2.1, hk.2.2])]
   ·rw [if_neg (fun h => hx h.1), av (by simpa using hx)]
 | group x m =>
  cases st with
  | nil => rfl
  | cons a st =>
   have ha : At l (szA st) a := at_one he
   rw [show (NV.group x m).parts = 1 from rfl, hK 1 (by simp), aj (by simp), aj (by rfl), ah (by simp; omega), hcut 1 (by simp), av (by rfl)]
   simp only [List.length_cons, Nat.add_sub_cancel, Int.toNat_natCast]
   rw [ah (by simp [inB]), ah (by simp), hd, show (0 : Int).toNat = 0 from rfl, GN]
   simp only [fK, NV.node]
   by_cases hx : a.top (szA st) = x
   ·subst hx
    rw [aj (by simp), aj (by rfl)]
    have hf := qG (n := n) (l := l) (v := .group (a.top (szA st)) m) (by simp [NV.node]) (by simp [NV.node]) (by simp [NV.node])
    simp only [NV.node] at hf
    rw [hf]
    simp only [aB]
    have hlt := a.dL
    rw [if_pos trivial, aj (by rfl)]
    have e : dJ (.group a m :: st) = (dJ (a :: st)).take st.length ++ [(i : Int)] := by
     rw [GL]; simp only [dJ, Pt.top, Pt.sz]; rw [sO] at hsz; congr 2; omega
    have := hfin .empty st.length (.group a m :: st) (by simp) e
    simpa using this
   ·rw [if_neg hx, av (by simpa using hx)]
 | cat x y =>
  match st, hlen, hsz, he, hst, hK, hcut, hfin with
  | [], _, _, _, _, _, _, _ => rfl
  | [_], _, _, _, _, _, _, _ => rfl
  | b :: a :: st, hlen, hsz, he, hst, hK, hcut, hfin =>
   obtain ⟨ha, hb⟩ := PD he
   rw [show (NV.cat x y).parts = 2 from rfl, hK 2 (by simp), aj (by simp), aj (by rfl), ah (by simp; omega), hcut 2 (by simp), av (by rfl)]
   simp only [List.length_cons, Nat.add_sub_cancel, Int.toNat_natCast, show ∀ k, k + 1 + 1 - 2 = k from fun k => rfl]
   rw [ah (by simp [inB]; omega), ah (by simp; omega), hd, show (0 : Int).toNat = 0 from rfl, show (1 : Int).toNat = 1 from rfl, KO, KP]
   simp only [fK, NV.node]
   by_cases hx : a.top (szA st) = x
   ·subst hx
    rw [aj (by simp), av (by rfl), ah (by simp [inB]; omega), ah (by simp)]
    by_cases hy : b.top (szA st + a.sz) = y
    ·subst hy
     rw [aj (by simp)]
     have hf := Rk (n := n) ha hb
     simp only [NV.node] at hf
     rw [hf]
     simp only [aB]
     have hlt := a.dL
     by_cases hk : a.kind ≠ 4 ∧ a.kind ≠ 5 ∧ b.kind ≠ 5
     ·rw [if_pos ⟨trivial, trivial, hk⟩, decide_eq_true hk, aj (by rfl)]
      have e : dJ (.cat a b :: st) = (dJ (b :: a :: st)).take st.length ++ [(i : Int)] := by
       rw [KN]; simp only [dJ, Pt.top, Pt.sz]; rw [sO, sO] at hsz; congr 2; omega
      have := hfin .empty st.length (.cat a b :: st) (by simp; omega) e
      simpa using this
     ·rw [if_neg (fun h => hk h.2.2), decide_eq_false hk, av (by rfl)]
    ·rw [if_neg (fun h => hy h.2.1), av (by simpa using hy)]
   ·rw [if_neg (fun h => hx h.1), av (by simpa using hx)]
 | alt x y =>
  match st, hlen, hsz, he, hst, hK, hcut, hfin with
  | [], _, _, _, _, _, _, _ => rfl
  | [_], _, _, _, _, _, _, _ => rfl
  | b :: a :: st, hlen, hsz, he, hst, hK, hcut, hfin =>
   obtain ⟨ha, hb⟩ := PD he
   rw [show (NV.alt x y).parts = 2 from rfl, hK 2 (by simp), aj (by simp), aj (by rfl), ah (by simp; omega), hcut 2 (by simp), av (by rfl)]
   simp only [List.length_cons, Nat.add_sub_cancel, Int.toNat_natCast, show ∀ k, k + 1 + 1 - 2 = k from fun k => rfl]
   rw [ah (by simp [inB]; omega), ah (by simp; omega), hd, show (0 : Int).toNat = 0 from rfl, show (1 : Int).toNat = 1 from rfl, KO, KP]
   simp only [fK, NV.node]
   by_cases hx : a.top (szA st) = x
   ·subst hx
    rw [aj (by simp), av (by rfl), ah (by simp [inB]; omega), ah (by simp)]
    by_cases hy : b.top (szA st + a.sz) = y
    ·subst hy
     rw [aj (by simp)]
     have hf := Rl (n := n) (y := b.top (szA st + a.sz)) ha
     simp only [NV.node] at hf
     rw [hf]
     simp only [aB]
     have hlt := a.dL
     by_cases hk : a.kind ≠ 5
     ·rw [if_pos ⟨trivial, trivial, hk⟩, decide_eq_true hk, aj (by rfl)]
      have e : dJ (.alt a b :: st) = (dJ (b :: a :: st)).take st.length ++ [(i : Int)] := by
       rw [KN]; simp only [dJ, Pt.top, Pt.sz]; rw [sO, sO] at hsz; congr 2; omega
      have := hfin .empty st.length (.alt a b :: st) (by simp; omega) e
      simpa using this
     ·rw [if_neg (fun h => hk h.2.2), decide_eq_false hk, av (by rfl)]
    ·rw [if_neg (fun h => hy h.2.1), av (by simpa using hy)]
   ·rw [if_neg (fun h => hx h.1), av (by simpa using hx)]
end
end Go.Dec
namespace Go.Dec
theorem KR : ∀ st : List Pt, st.length <= szA st
 | [] => Nat.le_refl _
 | t :: st => by have := KR st; have := t.dL; simp only [List.length_cons, szA]; omega
theorem KS {len : Nat} {st st2 : List Pt} {v : NV} (h : fK len st v = some st2) : szA st2 = szA st + 1 := by
 have := congrArg List.length (xE h)
 rw [List.length_append, sN, sN] at this
 simpa using this
section
variable {n : Nat} {l : List Nd}
theorem Im {i : Nat} {x : Nd} (h : l[i]? = some x) : l.take (i + 1) = l.take i ++ [x] := by
 rw [List.take_add_one, h]; rfl
theorem MC (hn : 5 <= n) (hl : l.length < 1000000) (hw : ∀ nd ∈ l, Cg nd) : ∀ (vs : List NV) (i : Nat) (st : List Pt) (m : Nat), vs.map NV.node = l.drop i -> (∀ v ∈ vs, v.ok = true) -> i <= l.length -> szA st = i -> encR st = l.take i -> vs.length < m ->
  fix (dU n) m (l, l, (l.length : Int), (i : Int), dJ st, ()) = match kC l.length vs st with
   | none => some false
   | some st2 => some (decide (st2.length = 1)) := by
 intro vs
 induction vs with
 | nil =>
  intro i st m hvs _ hi hsz he hm
  have hi2 : i = l.length := by
   have := congrArg List.length hvs
   rw [List.length_drop] at this; simp at this; omega
  rw [bT hm, dU]
  simp only
  rw [aj (by simp; omega), j5]
  simp only [kC]
  congr 1
  rw [Bool.eq_iff_iff]; simp; omega
 | cons v vs ih =>
  intro i st m hvs hok hi hsz he hm
  have hil : i < l.length := by
   have := congrArg List.length hvs
   rw [List.length_drop] at this; simp at this; omega
  have hv : l[i]? = some v.node := by
   have : (l.drop i)[0]? = some v.node := by rw [<- hvs]; rfl
   rw [List.getElem?_drop] at this; simpa using this
  have Vv : vs.map NV.node = l.drop (i + 1) := by
   have : (l.drop i).drop 1 = vs.map NV.node := by rw [<- hvs]; rfl
   rw [List.drop_drop] at this; exact this.symm
  have hst := KR st
  rw [bT (by omega), KQ hn hl hil hv (hok v (by simp)) (hw _ (List.mem_of_getElem? hv)) (by omega) hsz he]
  simp only [kC]
  cases hs : fK l.length st v with
  | none => rfl
  | some st2 =>
   simp only
   exact ih (i + 1) st2 (m - 1) Vv (fun v hv => hok v (by simp [hv])) (by omega) (by rw [KS hs]; omega) (by rw [xE hs, he, Im hv]) (by simp only [List.length_cons] at hm; omega)
theorem SV (hn : 5 <= n) (hl : l.length < 1000000) (hw : ∀ nd ∈ l, Cg nd) {j : Nat} {x : Nd} (hj : l[j]? = some x) (hx : ∀ v : NV, x = v.node -> v.ok = false) : ∀ (k i : Nat) (st : List Pt) (m : Nat), i + k = j -> szA st = i -> encR st = l.take i -> k < m ->
  fix (dU n) m (l, l, (l.length : Int), (i : Int), dJ st, ()) = some false := by
 have hjl : j < l.length := (List.getElem?_eq_some_iff.1 hj).1
 intro k
 induction k with
 | zero =>
  intro i st m hi hsz he hm
  have hi : i = j := by omega
  subst hi
  rw [bT hm, dU]
  simp only
  have hget : ∀ d, aW d l (i : Int) = x := by
   intro d
   rw [iw hjl]
   rw [List.getElem?_eq_getElem hjl] at hj
   exact Option.some.inj hj
  rw [av (by simp; omega), ah (iQ hjl), hget]
  have hone : lJ n x = some false := by
   rcases KI (n := n) (hw x (List.mem_of_getElem? hj)) with ⟨_, v, h1, h2⟩ | ⟨h, _⟩
   ·rw [hx v h1] at h2; exact absurd h2 (by simp)
   ·exact h
  rw [hone]
  have hp : ∃ p, fC n x = some p := by
   unfold fC
   simp only
   cases (x.1 == 4) <;> cases (x.1 == 5) <;> cases (x.1 == 6) <;> cases (x.1 == 7) <;> exact ⟨_, rfl⟩
  obtain ⟨p, hp⟩ := hp
  rw [hp]; rfl
 | succ k ih =>
  intro i st m hi hsz he hm
  have hil : i < l.length := by omega
  have hli : l[i]? = some l[i] := List.getElem?_eq_getElem hil
  have hst := KR st
  rcases KI (n := n) (hw _ (List.mem_of_getElem? hli)) with ⟨_, v, h1, h2⟩ | ⟨h, _⟩
  ·rw [h1] at hli
   rw [bT (by omega), KQ hn hl hil hli h2 (hw _ (List.mem_of_getElem? hli)) (by omega) hsz he]
   cases hs : fK l.length st v with
   | none => rfl
   | some st2 =>
    simp only
    exact ih (i + 1) st2 (m - 1) (by omega) (by rw [KS hs]; omega) (by rw [xE hs, he, Im hli]) (by omega)
  ·rw [bT (by omega), dU]
   simp only
   have hget : ∀ d, aW d l (i : Int) = l[i] := fun d => iw hil
   rw [av (by simp; omega), ah (iQ hil), hget, h]
   have hp : ∃ p, fC n l[i] = some p := by
    unfold fC
    simp only
    cases (l[i].1 == 4) <;> cases (l[i].1 == 5) <;> cases (l[i].1 == 6) <;> cases (l[i].1 == 7) <;> exact ⟨_, rfl⟩
   obtain ⟨p, hp⟩ := hp
   rw [hp]; rfl
theorem Io {len : Nat} : ∀ (vs : List NV) (st st2 : List Pt), (∀ v ∈ vs, v.ok = true) -> (∀ t ∈ st, uo len t) -> kC len vs st = some st2 -> encR st2 = encR st ++ vs.map NV.node ∧ ∀ t ∈ st2, uo len t
 | [], st, st2, _, hst, h => by simp only [kC, Option.some.injEq] at h; subst h; exact ⟨by simp, hst⟩
 | v :: vs, st, st2, hv, hst, h => by
  simp only [kC] at h
  cases hs : fK len st v with
  | none => rw [hs] at h; simp at h
  | some st3 =>
   rw [hs] at h
   have := Io vs st3 st2 (fun v h => hv v (by simp [h])) (Rj (hv v (by simp)) hst hs) h
   exact ⟨by rw [this.1, xE hs, List.append_assoc]; rfl, this.2⟩
theorem FN : ∀ l : List Nd, (∃ vs : List NV, vs.map NV.node = l ∧ ∀ v ∈ vs, v.ok = true) ∨ (∃ (j : Nat) (x : Nd), l[j]? = some x ∧ ∀ v : NV, x = v.node -> v.ok = false)
 | [] => Or.inl ⟨[], rfl, by simp⟩
 | x :: l => by
  by_cases hx : ∃ v : NV, x = v.node ∧ v.ok = true
  ·obtain ⟨v, h1, h2⟩ := hx
   rcases FN l with ⟨vs, h3, h4⟩ | ⟨j, y, h3, h4⟩
   ·exact Or.inl ⟨v :: vs, by rw [List.map_cons, h3, h1], by intro u hu; rcases List.mem_cons.1 hu with rfl | hu; exact h2; exact h4 u hu⟩
   ·exact Or.inr ⟨j + 1, y, by simpa using h3, h4⟩
  ·exact Or.inr ⟨0, x, rfl, fun v hv => by
    cases h : v.ok
    ·rfl
    ·exact absurd ⟨v, hv, h⟩ hx⟩
theorem N9 (hn : 5 <= n) (hnl : l.length < n) (hl : l.length < 1000000) (hw : ∀ nd ∈ l, Cg nd) :
  (og n l = some true ∧ ∃ t, l = t.enc 0 ∧ uo l.length t) ∨ (og n l = some false ∧ ∀ t, l = t.enc 0 -> ¬ uo l.length t) := by
 unfold og
 simp only
 have hcomp : ∀ t, l = t.enc 0 -> uo l.length t -> fix (dU n) n (l, l, (l.length : Int), 0, [], ()) = some true := by
  intro t ht hk
  have hm : (t.nvs 0).map NV.node = l.drop 0 := by rw [qF, ht]; rfl
  have hvl : (t.nvs 0).length = l.length := by have := congrArg List.length hm; simpa using this
  have := MC hn hl hw (t.nvs 0) 0 [] n hm (wS t 0 hk.1) (by omega) rfl (by rfl) (by omega)
  have hf := mK l.length t [] hk.2.1 hk.2.2
  rw [show szA [] = 0 from rfl] at hf
  rw [hf] at this
  exact this
 rcases FN l with ⟨vs, h1, h2⟩ | ⟨j, x, h1, h2⟩
 ·have hvl : vs.length = l.length := by have := congrArg List.length h1; simpa using this
  have hN := MC hn hl hw vs 0 [] n (by rw [h1]; rfl) h2 (by omega) rfl (by rfl) (by omega)
  rw [show ((0 : Nat) : Int) = 0 from rfl, show dJ [] = [] from rfl] at hN
  cases hf : kC l.length vs [] with
  | none =>
   rw [hf] at hN
   refine Or.inr ⟨hN, fun t ht hk => ?_⟩
   have := hcomp t ht hk
   rw [hN] at this; simp at this
  | some st2 =>
   rw [hf] at hN
   obtain ⟨ho1, ho2⟩ := Io vs [] st2 h2 (by simp) hf
   by_cases h1l : st2.length = 1
   ·match st2, h1l with
    | [t], _ =>
     refine Or.inl ⟨hN, t, ?_, ho2 t (by simp)⟩
     simp only [encR, szA, List.nil_append, h1] at ho1
     exact ho1.symm
   ·simp only [decide_eq_false h1l] at hN
    refine Or.inr ⟨hN, fun t ht hk => ?_⟩
    have := hcomp t ht hk
    rw [hN] at this; simp at this
 ·have hjl : j < l.length := (List.getElem?_eq_some_iff.1 h1).1
  have hB := SV hn hl hw h1 h2 j 0 [] n (by omega) rfl rfl (by omega)
  refine Or.inr ⟨hB, fun t ht hk => ?_⟩
  have := hcomp t ht hk
  rw [show ((0 : Nat) : Int) = 0 from rfl, show dJ [] = [] from rfl] at hB
  rw [hB] at this; simp at this
end
abbrev W4 : Type := Nat × Bool × List Bool × Bool
def aH : Pt -> W4 -> W4
 | .cat a b, w => aH b (aH a w)
 | .alt a b, w => aH b (aH a w)
 | .times a _ _, w => aH a w
 | .group a m, w => ((aH a (w.1 + 1, w.2.1 && decide (m = w.1 + 1), w.2.2.1, w.2.2.2)).1, (aH a (w.1 + 1, w.2.1 && decide (m = w.1 + 1), w.2.2.1, w.2.2.2)).2.1, (aH a (w.1 + 1, w.2.1 && decide (m = w.1 + 1), w.2.2.1, w.2.2.2)).2.2.1.set m true, (aH a (w.1 + 1, w.2.1 && decide (m = w.1 + 1), w.2.2.1, w.2.2.2)).2.2.2)
 | .ref m, w => (w.1, w.2.1 && w.2.2.1.getD m false, w.2.2.1, true)
 | _, w => w
theorem mM : ∀ (t : Pt) (w : W4), (aH t w).2.2.1.length = w.2.2.1.length
 | .cat a b, w => by simp only [aH]; rw [mM b, mM a]
 | .alt a b, w => by simp only [aH]; rw [mM b, mM a]
 | .times a _ _, w => by simp only [aH]; rw [mM a]
 | .group a m, w => by simp only [aH, List.length_set]; rw [mM a]
 | .ref m, w => rfl
 | .empty, w | .bol, w | .eol, w | .bytes _, w => rfl
theorem uq : ∀ (t : Pt) (w : W4), (aH t w).1 <= w.1 + t.sz
 | .cat a b, w => by simp only [aH, Pt.sz]; have := uq b (aH a w); have := uq a w; omega
 | .alt a b, w => by simp only [aH, Pt.sz]; have := uq b (aH a w); have := uq a w; omega
 | .times a _ _, w => by simp only [aH, Pt.sz]; have := uq a w; omega
 | .group a m, w => by simp only [aH, Pt.sz]; have := uq a (w.1 + 1, w.2.1 && decide (m = w.1 + 1), w.2.2.1, w.2.2.2); simp only at this; omega
 | .ref m, w => by simp only [aH]; omega
 | .empty, w | .bol, w | .eol, w | .bytes _, w => by simp only [aH]; omega
theorem qz : ∀ (t : Pt) (g : Nat) (i c : Bool) (e : List Bool) (r : Bool), aH t (g, i && c, e, r) = ((aH t (g, i, e, r)).1, (aH t (g, i, e, r)).2.1 && c, (aH t (g, i, e, r)).2.2.1, (aH t (g, i, e, r)).2.2.2)
 | .cat a b, g, i, c, e, r => by
  simp only [aH]
  rw [qz a]
  rw [qz b (aH a (g, i, e, r)).1 (aH a (g, i, e, r)).2.1]
 | .alt a b, g, i, c, e, r => by
  simp only [aH]
  rw [qz a]
  rw [qz b (aH a (g, i, e, r)).1 (aH a (g, i, e, r)).2.1]
 | .times a _ _, g, i, c, e, r => by simp only [aH]; rw [qz a]
 | .group a m, g, i, c, e, r => by
  simp only [aH]
  have : (i && c && decide (m = g + 1)) = (i && decide (m = g + 1) && c) := by cases i <;> cases c <;> cases decide (m = g + 1) <;> rfl
  rw [this, qz a]
 | .ref m, g, i, c, e, r => by
  simp only [aH]
  cases i <;> cases c <;> cases e.getD m false <;> rfl
 | .empty, _, _, _, _, _ | .bol, _, _, _, _, _ | .eol, _, _, _, _, _ | .bytes _, _, _, _, _, _ => rfl
def W4.out (l : List Nd) (w : W4) : Option (List Nd × Int × Bool × List Bool × Bool × Unit) := some (l, (w.1 : Int), w.2.1, w.2.2.1, w.2.2.2, ())
theorem Ac {l : List Nd} (hl : l.length < 1000000) : ∀ (t : Pt) (o m : Nat) (w : W4), At l o t -> bQ t = true -> t.sz <= m -> w.1 + t.sz < 1000000 -> w.2.2.1.length = 10 ->
  jh m (t.top o, l, (w.1 : Int), w.2.1, w.2.2.1, w.2.2.2, ()) = W4.out l (aH t w) := by
 intro t
 have start : ∀ {t : Pt} {o m : Nat} {x : List Nd × Int × Bool × List Bool × Bool × Unit}, At l o t -> jh (m + 1) (t.top o, x) = bS m (jh m) (t.top o, x) := fun _ => rfl
 induction t with
 | empty =>
  intro o m w h hf hm hg he
  obtain ⟨m, rfl⟩ : ∃ k, m = k + 1 := ⟨m - 1, by simp only [Pt.sz] at hm; omega⟩
  rw [start h]; unfold bS; simp only
  rw [ah h.top.1, h.top.2]; rfl
 | bytes p =>
  intro o m w h hf hm hg he
  obtain ⟨m, rfl⟩ : ∃ k, m = k + 1 := ⟨m - 1, by simp only [Pt.sz] at hm; omega⟩
  rw [start h]; unfold bS; simp only
  rw [ah h.top.1, h.top.2]; rfl
 | bol =>
  intro o m w h hf hm hg he
  obtain ⟨m, rfl⟩ : ∃ k, m = k + 1 := ⟨m - 1, by simp only [Pt.sz] at hm; omega⟩
  rw [start h]; unfold bS; simp only
  rw [ah h.top.1, h.top.2]; rfl
 | eol =>
  intro o m w h hf hm hg he
  obtain ⟨m, rfl⟩ : ∃ k, m = k + 1 := ⟨m - 1, by simp only [Pt.sz] at hm; omega⟩
  rw [start h]; unfold bS; simp only
  rw [ah h.top.1, h.top.2]; rfl
 | ref k =>
  intro o m w h hf hm hg he
  obtain ⟨m, rfl⟩ : ∃ k, m = k + 1 := ⟨m - 1, by simp only [Pt.sz] at hm; omega⟩
  simp only [bQ, Bool.and_eq_true, decide_eq_true_eq] at hf
  rw [start h]; unfold bS; simp only
  rw [ah h.top.1, h.top.2]
  simp only [Pt.nv, NV.node]
  rw [aj (by rfl), aj (by rfl), aj (by rfl), aj (by rfl), av (by rfl), ah (iQ (i := k) (n := 10) (by omega)), ah (by exact decide_eq_true (show k < 10 by omega))]
  simp only [aH, W4.out, Int.toNat_natCast]
  cases w.2.1 <;> rfl
 | cat a b iha ihb =>
  intro o m w h hf hm hg he
  obtain ⟨m, rfl⟩ : ∃ k, m = k + 1 := ⟨m - 1, by simp only [Pt.sz] at hm; omega⟩
  simp only [bQ, Bool.and_eq_true] at hf
  simp only [Pt.sz] at hm hg
  rw [start h]; unfold bS; simp only
  rw [ah h.top.1, h.top.2]
  simp only [Pt.nv, NV.node]
  have hga := uq a w
  rw [av (by rfl), av (by rfl), iha o m w h.GJ.1 hf.1 (by omega) (by omega) he]
  simp only [W4.out, aB]
  rw [ihb (o + a.sz) m (aH a w) h.GJ.2 hf.2 (by omega) (by omega) (by rw [mM]; exact he)]
  rfl
 | alt a b iha ihb =>
  intro o m w h hf hm hg he
  obtain ⟨m, rfl⟩ : ∃ k, m = k + 1 := ⟨m - 1, by simp only [Pt.sz] at hm; omega⟩
  simp only [bQ, Bool.and_eq_true] at hf
  simp only [Pt.sz] at hm hg
  rw [start h]; unfold bS; simp only
  rw [ah h.top.1, h.top.2]
  simp only [Pt.nv, NV.node]
  have hga := uq a w
  rw [aj (by rfl), av (by rfl), iha o m w h.alt1.1 hf.1 (by omega) (by omega) he]
  simp only [W4.out, aB]
  rw [ihb (o + a.sz) m (aH a w) h.alt1.2 hf.2 (by omega) (by omega) (by rw [mM]; exact he)]
  rfl
 | times a lo hi iha =>
  intro o m w h hf hm hg he
  obtain ⟨m, rfl⟩ : ∃ k, m = k + 1 := ⟨m - 1, by simp only [Pt.sz] at hm; omega⟩
  simp only [bQ, Bool.and_eq_true] at hf
  simp only [Pt.sz] at hm hg
  rw [start h]; unfold bS; simp only
  rw [ah h.top.1, h.top.2]
  simp only [Pt.nv, NV.node]
  rw [aj (by rfl), aj (by rfl), av (by rfl), iha o m w h.KJ hf.1 (by omega) (by omega) he]
  rfl
 | group a k iha =>
  intro o m w h hf hm hg he
  obtain ⟨m, rfl⟩ : ∃ k, m = k + 1 := ⟨m - 1, by simp only [Pt.sz] at hm; omega⟩
  simp only [bQ, Bool.and_eq_true, decide_eq_true_eq] at hf
  simp only [Pt.sz] at hm hg
  rw [start h]; unfold bS; simp only
  rw [ah h.top.1, h.top.2]
  simp only [Pt.nv, NV.node]
  rw [aj (by rfl), aj (by rfl), aj (by rfl), av (by rfl), bK (by omega) (by omega), show (w.1 : Int) + 1 = ((w.1 + 1 : Nat) : Int) from rfl]
  have hI := iha o m (w.1 + 1, w.2.1 && decide (k = w.1 + 1), w.2.2.1, w.2.2.2) h.KL hf.1 (by omega) (by simp only; omega) he
  simp only at hI
  have he2 : ((k : Int) == ((w.1 + 1 : Nat) : Int)) = decide (k = w.1 + 1) := by rw [Bool.eq_iff_iff, beq_iff_eq, decide_eq_true_eq]; omega
  have hlen := mM a (w.1 + 1, w.2.1 && decide (k = w.1 + 1), w.2.2.1, w.2.2.2)
  rw [he2]
  cases hb : w.2.1 <;> rw [hb] at hI hlen
  ·simp only [Bool.false_and] at hI hlen
   rw [aU, hI]
   simp only [W4.out, aB]
   rw [ah (iQ (i := k) (n := 10) (by omega)), ah (by exact decide_eq_true (show k < 10 by omega))]
   simp only [aH, hb, Bool.false_and, Int.toNat_natCast]
  ·simp only [Bool.true_and] at hI hlen
   rw [bE, hI]
   simp only [W4.out, aB]
   rw [ah (iQ (i := k) (n := 10) (by omega)), ah (by exact decide_eq_true (show k < 10 by omega))]
   simp only [aH, hb, Bool.true_and, Int.toNat_natCast]
def w0 : W4 := (0, true, jZ, false)
def qc (t : Pt) : Prop := t.sz <= 120 ∧ uo t.sz t ∧ (aH t w0).2.1 = true
theorem Oa {n : Nat} {l : List Nd} (hn : 200 <= n) (hw : ∀ nd ∈ l, Cg nd) :
  (∃ t, qc t ∧ l = t.enc 0 ∧ mU n l = some (((aH t w0).1 : Int), (aH t w0).2.2.2, true)) ∨ ((∀ t, qc t -> l ≠ t.enc 0) ∧ mU n l = some (0, false, false)) := by
 unfold mU
 simp only
 have hsz : ∀ t : Pt, l = t.enc 0 -> l.length = t.sz := fun t h => by rw [h, Pt.bD]
 by_cases h0 : l.length = 0
 ·rw [av (by rw [h0]; rfl)]
  exact Or.inr ⟨fun t _ h => by have := hsz t h; have := t.dL; omega, rfl⟩
 rw [aj (by simp; intro h; rw [h] at h0; simp at h0)]
 by_cases h1 : l.length > 120
 ·rw [av (by simp; omega)]
  exact Or.inr ⟨fun t ht h => by have := hsz t h; have := ht.1; omega, rfl⟩
 rw [aj (by simp; omega)]
 rcases N9 (n := n) (l := l) (by omega) (by omega) (by omega) hw with ⟨ho, t, ht, hk⟩ | ⟨ho, hno⟩
 ·rw [ho]
  simp only [aB, Bool.not_true, aU]
  unfold tC
  simp only
  have hlt := hsz t ht
  have htp := t.dL
  rw [bK (by omega) (by omega), show (l.length : Int) - 1 = t.top 0 by unfold Pt.top; omega]
  have hA : At l 0 t := by have := At.self t; rw [<- ht] at this; exact this
  have hN := Ac (l := l) (by omega) t 0 n w0 hA hk.1 (by omega) (by simp only [w0]; omega) rfl
  have hw0 : jh n (t.top 0, l, 0, true, [false, false, false, false, false, false, false, false, false, false], false, ()) = W4.out l (aH t w0) := hN
  rw [hw0]
  simp only [W4.out, aB]
  cases hi : (aH t w0).2.1
  ·refine Or.inr ⟨fun u hu h => ?_, rfl⟩
   have hu2 := hu.2.2
   have hlu := hsz u h
   have hB : At l 0 u := by have := At.self u; rw [<- h] at this; exact this
   have htop : t.top 0 = u.top 0 := by unfold Pt.top; omega
   have hM := Ac (l := l) (by omega) u 0 n w0 hB hu.2.1.1 (by omega) (by simp only [w0]; omega) rfl
   rw [<- htop, hN] at hM
   simp only [W4.out, Option.some.injEq, Prod.mk.injEq] at hM
   have := hM.2.2.1
   rw [hi, hu2] at this; simp at this
  ·rw [hlt] at hk
   exact Or.inl ⟨t, ⟨by omega, hk, hi⟩, ht, rfl⟩
 ·rw [ho]
  simp only [aB, Bool.not_false, bE]
  exact Or.inr ⟨fun t ht h => by have := hno t h; rw [hsz t h] at this; exact this ht.2.1, by first | rfl | trivial⟩
theorem PG {n : Nat} {l : List Nd} (hn : 200 <= n) (hw : ∀ nd ∈ l, Cg nd) :
  (∃ t, qc t ∧ l = t.enc 0 ∧ qR n l = some true) ∨ ((∀ t, qc t -> l ≠ t.enc 0) ∧ qR n l = some false) := by
 unfold qR
 simp only
 rcases Oa hn hw with ⟨t, h1, h2, h3⟩ | ⟨h1, h2⟩
 ·exact Or.inl ⟨t, h1, h2, by rw [h3]; rfl⟩
 ·exact Or.inr ⟨h1, by rw [h2]; rfl⟩
end Go.Dec
namespace Go.Dec
def GQ (t : Pt) (b : Nat) (en : List Bool) (b' : Nat) (en' : List Bool) : Prop := ∀ i rf, ∃ rf', aH t (b, i, en, rf) = (b', i, en', rf')
def KT (ts : List Pt) (w : W4) : W4 := ts.foldl (fun w t => aH t w) w
def Vw (ts : List Pt) (b : Nat) (en : List Bool) (b' : Nat) (en' : List Bool) : Prop := ∀ i rf, ∃ rf', KT ts (b, i, en, rf) = (b', i, en', rf')
theorem wT {p : Nat -> Bool} {i : Nat} (hi : i < 256) (h : p i = true) : dD p = false := by
 cases he : dD p
 ·rfl
 ·have := l8 he hi
  rw [h] at this; simp at this
theorem ME {r : List UInt8} {p : Nat -> Bool} {k : Nat} (h : ny r = some (p, k)) : dD p = false := by
 unfold ny at h
 cases h1 : [91].isPrefixOf r <;> rw [h1] at h <;> simp only [cond_true, cond_false] at h
 ·simp at h
 ·cases h3 : qx (r.length + 1) true (fun _ => false) (r.drop (bif [94].isPrefixOf (r.drop 1) then 2 else 1)) with
  | none => rw [h3] at h; simp at h
  | some x =>
   obtain ⟨q, m⟩ := x
   rw [h3] at h
   simp only at h
   cases h4 : dD (bif [94].isPrefixOf (r.drop 1) then (fun j => !q j) else q) <;> rw [h4] at h <;> simp at h
   rw [<- h.1]; simpa using h4
theorem vQ (c : UInt8) : dD (rz c) = false := wT c.toNat_lt (by simp [rz])
def yQ (t : Pt) : Prop := bQ t = true ∧ kI t = true ∧ j4 t = true ∧ t.kind ≠ 4 ∧ t.kind ≠ 5
def wU (t : Pt) : Prop := bQ t = true ∧ kI t = true ∧ j4 t = true ∧ (t.kind = 1 ∨ t.kind = 7 ∨ t.kind = 8)
def MF (t : Pt) : Prop := bQ t = true ∧ kI t = true ∧ j4 t = true ∧ t.kind ≠ 5
theorem wU.item {t : Pt} (h : wU t) : yQ t := ⟨h.1, h.2.1, h.2.2.1, by rcases h.2.2.2 with h | h | h <;> omega, by rcases h.2.2.2 with h | h | h <;> omega⟩
def Oc (row : List UInt8 -> Nat -> List Bool -> Res (Option Pt)) : Prop := ∀ r b en t r' b' en', b <= 9 -> en.length = 10 -> row r b en = .ok (some t) r' b' en' -> MF t ∧ GQ t b en b' en' ∧ b' <= 9 ∧ en'.length = 10
theorem MG {p : Nat -> Bool} (h : dD p = false) (b : Nat) (en : List Bool) : wU (.bytes p) ∧ GQ (.bytes p) b en b en := ⟨⟨by simp [bQ, h], rfl, rfl, Or.inl rfl⟩, fun i rf => ⟨rf, rfl⟩⟩
theorem PI {row : List UInt8 -> Nat -> List Bool -> Res (Option Pt)} {first : Bool} {r : List UInt8} {b : Nat} {en : List Bool} {t : Pt} {r' : List UInt8} {b' : Nat} {en' : List Bool}
  (hrow : Oc row) (hb : b <= 9) (he : en.length = 10) (h : dV row first r b en = .ok t r' b' en') : wU t ∧ GQ t b en b' en' ∧ b' <= 9 ∧ en'.length = 10 := by
 have hone : ∀ {p : Nat -> Bool} {x : List UInt8}, dD p = false -> Res.ok (Pt.bytes p) x b en = .ok t r' b' en' -> wU t ∧ GQ t b en b' en' ∧ b' <= 9 ∧ en'.length = 10 := by
  intro p x hp h
  simp only [Res.ok.injEq] at h
  obtain ⟨rfl, rfl, rfl, rfl⟩ := h
  exact ⟨(MG hp b en).1, (MG hp b en).2, hb, he⟩
 unfold dV at h
 cases r with
 | nil => simp at h
 | cons c r1 =>
  simp only at h
  cases h1 : c == 46 <;> rw [h1] at h <;> simp only [cond_true, cond_false] at h
  case true => exact hone (wT (i := 0) (by omega) rfl) h
  cases h2 : c == 91 <;> rw [h2] at h <;> simp only [cond_true, cond_false] at h
  case true =>
   cases h3 : ny (c :: r1) with
   | none => rw [h3] at h; simp at h
   | some x => rw [h3] at h; exact hone (ME h3) h
  cases h3 : c == 92 <;> rw [h3] at h <;> simp only [cond_true, cond_false] at h
  case false => exact hone (vQ c) h
  cases r1 with
  | nil => simp at h
  | cons d r2 =>
   simp only at h
   cases h4 : d == 40 <;> rw [h4] at h <;> simp only [cond_true, cond_false] at h
   case true =>
    cases h5 : b == 9 <;> rw [h5] at h <;> simp only [cond_true, cond_false] at h
    case true => simp at h
    have hb9 : b ≠ 9 := by simpa using h5
    cases ho : row r2 (b + 1) en with
    | er e k => rw [ho] at h; simp at h
    | ok t3 r3 b3 en3 =>
     rw [ho] at h
     cases t3 with
     | none => simp at h
     | some t3 =>
      simp only at h
      obtain ⟨g1, g2, g3, g4⟩ := hrow r2 (b + 1) en t3 r3 b3 en3 (by omega) he ho
      cases h6 : [92, 41].isPrefixOf r3 <;> rw [h6] at h <;> simp only [cond_true, cond_false, Res.ok.injEq] at h
      ·simp at h
      ·obtain ⟨rfl, rfl, rfl, rfl⟩ := h
       refine ⟨⟨?_, ?_, ?_, Or.inr (Or.inl rfl)⟩, ?_, g3, ?_⟩
       ·simp [bQ, g1.1]; omega
       ·simp [kI, g1.2.1]
       ·simp [j4, g1.2.2.1]
       ·intro i rf
        obtain ⟨rf', hrf⟩ := g2 i rf
        exact ⟨rf', by simp only [aH, decide_true, Bool.and_true]; rw [hrf]⟩
       ·rw [List.length_set]; exact g4
   cases h5 : decide (49 <= d.toNat) && decide (d.toNat <= 57) <;> rw [h5] at h <;> simp only [cond_true, cond_false] at h
   case true =>
    simp only [Bool.and_eq_true, decide_eq_true_eq] at h5
    cases h6 : en.getD (d.toNat - 48) false <;> rw [h6] at h <;> simp only [cond_true, cond_false, Res.ok.injEq] at h
    ·simp at h
    ·obtain ⟨rfl, rfl, rfl, rfl⟩ := h
     refine ⟨⟨by simp [bQ]; omega, rfl, rfl, Or.inr (Or.inr rfl)⟩, fun i rf => ⟨true, ?_⟩, hb, he⟩
     simp only [aH, h6, Bool.and_true]
   cases h6 : d == 110 <;> rw [h6] at h <;> simp only [cond_true, cond_false] at h
   case true => exact hone (vQ 10) h
   cases h7 : lQ.contains d <;> rw [h7] at h <;> simp only [cond_true, cond_false] at h
   case true => exact hone (vQ d) h
   cases h8 : d == 123 && first <;> rw [h8] at h <;> simp at h
theorem R6 {t : Pt} {lo hi : Int} {r r' : List UInt8} {b b' : Nat} {en en' : List Bool} {t' : Pt} (ht : wU t) (hlo : gY lo hi = true) (h : qy t lo hi r b en = .ok t' r' b' en') : t' = .times t lo hi ∧ yQ t' ∧ b' = b ∧ en' = en := by
 unfold qy at h
 cases hc : [42].isPrefixOf r || [92, 123].isPrefixOf r <;> rw [hc] at h <;> simp at h
 obtain ⟨rfl, rfl, rfl, rfl⟩ := h
 refine ⟨rfl, ⟨by simp only [bQ, ht.1, hlo]; rfl, ?_, by simp [j4, ht.2.2.1], by simp [Pt.kind], by simp [Pt.kind]⟩, rfl, rfl⟩
 simp only [kI, ht.2.1, Bool.true_and, Bool.or_eq_true, decide_eq_true_eq]
 rcases ht.2.2.2 with h | h | h
 ·exact Or.inl (Or.inl h)
 ·exact Or.inl (Or.inr h)
 ·exact Or.inr h
theorem Od {r : List UInt8} {lo hi : Int} {r2 : List UInt8} (h : nQ r = some (lo, hi, r2)) : gY lo hi = true := by
 unfold nQ at h
 cases hlo : iT r with
 | mk l1 r1 =>
  rw [hlo] at h
  cases l1 with
  | none => simp at h
  | some l1 =>
   simp only at h
   cases hc : [44].isPrefixOf r1 <;> rw [hc] at h <;> simp only [cond_true, cond_false] at h
   ·cases hb : [92, 125].isPrefixOf r1 && decide (l1 <= 255) && decide (1 <= l1) <;> rw [hb] at h <;> simp at h
    simp only [Bool.and_eq_true, decide_eq_true_eq] at hb
    obtain ⟨rfl, rfl, _⟩ := h
    simp [gY]; omega
   ·cases hhi : iT (r1.drop 1) with
    | mk h1 r3 =>
     rw [hhi] at h
     cases h1 with
     | none =>
      simp only at h
      cases hb : [92, 125].isPrefixOf r3 && decide (l1 <= 255) <;> rw [hb] at h <;> simp at h
      simp only [Bool.and_eq_true, decide_eq_true_eq] at hb
      obtain ⟨rfl, rfl, _⟩ := h
      simp [gY]; omega
     | some h1 =>
      simp only at h
      cases hb : [92, 125].isPrefixOf r3 && decide (l1 <= 255) && decide (h1 <= 255) && decide (l1 <= h1) && decide (1 <= h1) <;> rw [hb] at h <;> simp at h
      simp only [Bool.and_eq_true, decide_eq_true_eq] at hb
      obtain ⟨rfl, rfl, _⟩ := h
      simp [gY]; omega
theorem MH {t : Pt} {r : List UInt8} {b : Nat} {en : List Bool} {t' : Pt} {r' : List UInt8} {b' : Nat} {en' : List Bool} (ht : wU t) (h : jw t r b en = .ok t' r' b' en') :
  (t' = t ∨ ∃ lo hi, t' = .times t lo hi) ∧ yQ t' ∧ b' = b ∧ en' = en := by
 rw [Ej] at h
 cases h1 : [42].isPrefixOf r <;> rw [h1] at h <;> simp only [cond_true, cond_false] at h
 case true =>
  have := R6 ht (by decide) h
  exact ⟨Or.inr ⟨_, _, this.1⟩, this.2⟩
 cases h2 : [92, 123].isPrefixOf r <;> rw [h2] at h <;> simp only [cond_true, cond_false] at h
 case false =>
  simp only [Res.ok.injEq] at h
  obtain ⟨rfl, rfl, rfl, rfl⟩ := h
  exact ⟨Or.inl rfl, ht.item, rfl, rfl⟩
 cases ho : nQ (r.drop 2) with
 | none => rw [ho] at h; simp at h
 | some x =>
  obtain ⟨lo, hi, r2⟩ := x
  rw [ho] at h
  have := R6 ht (Od ho) h
  exact ⟨Or.inr ⟨_, _, this.1⟩, this.2⟩
theorem Oe {t t' : Pt} {b b' : Nat} {en en' : List Bool} (ht : t' = t ∨ ∃ lo hi, t' = .times t lo hi) (h : GQ t b en b' en') : GQ t' b en b' en' := by
 rcases ht with rfl | ⟨lo, hi, rfl⟩
 ·exact h
 ·exact fun i rf => h i rf
theorem SX {row : List UInt8 -> Nat -> List Bool -> Res (Option Pt)} (hrow : Oc row) : ∀ (f : Nat) (first : Bool) (r : List UInt8) (b : Nat) (en : List Bool) (acc ts : List Pt) (r' : List UInt8) (b' : Nat) (en' : List Bool), b <= 9 -> en.length = 10 -> dM row f first r b en acc = .ok ts r' b' en' ->
  ∃ new, ts = acc ++ new ∧ (∀ t ∈ new, yQ t) ∧ Vw new b en b' en' ∧ b' <= 9 ∧ en'.length = 10 := by
 intro f
 induction f with
 | zero => intro first r b en acc ts r' b' en' _ _ h; simp [dM] at h
 | succ f ih =>
  intro first r b en acc ts r' b' en' hb he h
  unfold dM at h
  cases hc : dA r <;> rw [hc] at h <;> simp only [cond_true, cond_false, Res.ok.injEq] at h
  case true =>
   obtain ⟨rfl, rfl, rfl, rfl⟩ := h
   exact ⟨[], by simp, by simp, fun i rf => ⟨rf, rfl⟩, hb, he⟩
  cases hd : [36].isPrefixOf r && dA (r.drop 1) <;> rw [hd] at h <;> simp only [cond_true, cond_false, Res.ok.injEq] at h
  case true =>
   obtain ⟨rfl, rfl, rfl, rfl⟩ := h
   exact ⟨[.eol], rfl, by intro t ht; simp only [List.mem_singleton] at ht; subst ht; exact ⟨rfl, rfl, rfl, by simp [Pt.kind], by simp [Pt.kind]⟩, fun i rf => ⟨rf, rfl⟩, hb, he⟩
  cases ho : dV row first r b en with
  | er e k => rw [ho] at h; simp at h
  | ok t r1 b1 en1 =>
   rw [ho] at h
   simp only at h
   obtain ⟨a1, a2, a3, a4⟩ := PI hrow hb he ho
   cases ho2 : jw t r1 b1 en1 with
   | er e k => rw [ho2] at h; simp at h
   | ok t2 r2 b2 en2 =>
    rw [ho2] at h
    simp only at h
    obtain ⟨c1, c2, rfl, rfl⟩ := MH a1 ho2
    obtain ⟨new, d1, d2, d3, d4, d5⟩ := ih _ _ _ _ _ _ _ _ _ a3 a4 h
    refine ⟨t2 :: new, by rw [d1]; simp, ?_, ?_, d4, d5⟩
    ·intro u hu
     rcases List.mem_cons.1 hu with rfl | hu
     ·exact c2
     ·exact d2 u hu
    ·intro i rf
     obtain ⟨rf1, h1⟩ := Oe c1 a2 i rf
     obtain ⟨rf2, h2⟩ := d3 i rf1
     exact ⟨rf2, by simp only [KT, List.foldl_cons] at h2 ⊢; rw [h1]; exact h2⟩
theorem KU : ∀ (ts : List Pt) (t : Pt) (w : W4), eu ts = some t -> aH t w = KT ts w
 | [], t, w, h => by simp [eu] at h
 | u :: ts, t, w, h => by
  unfold eu at h
  cases hc : eu ts with
  | none =>
   rw [hc] at h
   simp only [Option.some.injEq] at h
   subst h
   cases ts with
   | nil => rfl
   | cons v ts =>
    unfold eu at hc
    cases h2 : eu ts <;> rw [h2] at hc <;> simp at hc
  | some v =>
   rw [hc] at h
   simp only [Option.some.injEq] at h
   subst h
   simp only [aH, KT, List.foldl_cons]
   exact KU ts v (aH u w) hc
theorem MI : ∀ (ts : List Pt) (t : Pt), (∀ u ∈ ts, yQ u) -> eu ts = some t -> MF t
 | [], t, _, h => by simp [eu] at h
 | u :: ts, t, hu, h => by
  unfold eu at h
  have hk := hu u (by simp)
  cases hc : eu ts with
  | none =>
   rw [hc] at h
   simp only [Option.some.injEq] at h
   subst h
   exact ⟨hk.1, hk.2.1, hk.2.2.1, hk.2.2.2.2⟩
  | some v =>
   rw [hc] at h
   simp only [Option.some.injEq] at h
   subst h
   have hv := MI ts v (fun x hx => hu x (by simp [hx])) hc
   exact ⟨by simp [bQ, hk.1, hv.1], by simp [kI, hk.2.1, hv.2.1, hk.2.2.2.1, hk.2.2.2.2, hv.2.2.2], by simp [j4, hk.2.2.1, hv.2.2.1], by simp [Pt.kind]⟩
theorem R7 : ∀ f : Nat, Oc (dn f) := by
 intro f
 induction f with
 | zero => intro r b en t r' b' en' _ _ h; simp [dn] at h
 | succ f ih =>
  intro r b en t r' b' en' hb he h
  unfold dn at h
  simp only at h
  cases ho : dM (dn f) ((bif [94].isPrefixOf r then r.drop 1 else r).length + 1) true (bif [94].isPrefixOf r then r.drop 1 else r) b en (bif [94].isPrefixOf r then [Pt.bol] else []) with
  | er e k => rw [ho] at h; simp at h
  | ok ts r2 b2 en2 =>
   rw [ho] at h
   simp only [Res.ok.injEq] at h
   obtain ⟨new, d1, d2, d3, d4, d5⟩ := SX ih _ _ _ _ _ _ _ _ _ _ hb he ho
   obtain ⟨h1, rfl, rfl, rfl⟩ := h
   have hok : ∀ u ∈ ts, yQ u := by
    rw [d1]
    intro u hu
    rcases List.mem_append.1 hu with hu | hu
    ·cases h94 : [94].isPrefixOf r <;> rw [h94] at hu <;> simp at hu
     subst hu
     exact ⟨rfl, rfl, rfl, by simp [Pt.kind], by simp [Pt.kind]⟩
    ·exact d2 u hu
   refine ⟨MI ts t hok h1, ?_, d4, d5⟩
   intro i rf
   obtain ⟨rf', hrf⟩ := d3 i rf
   refine ⟨rf', ?_⟩
   rw [KU ts t _ h1, d1]
   simp only [KT, List.foldl_append] at hrf ⊢
   cases h94 : [94].isPrefixOf r
   ·exact hrf
   ·exact hrf
theorem pG {s : List UInt8} {t : Pt} (h : iU s = .inl t) : qc t := by
 cases s with
 | nil => simp only [iU, Sum.inl.injEq] at h; subst h; exact ⟨by simp [Pt.sz], ⟨rfl, rfl, fun h => by simp [Pt.sz] at h⟩, rfl⟩
 | cons c s0 =>
  have hps : iU (c :: s0) = match dn 11 (c :: s0) 0 jZ with
   | .er e k => .inr (e, (c :: s0).length - k)
   | .ok t r _ _ =>
    match r with
    | [] => match t with
     | none => .inr (41, (c :: s0).length)
     | some t => bif decide (t.sz > 120) then .inr (2, 0) else .inl t
    | _ => .inr (41, (c :: s0).length - r.length) := rfl
  rw [hps] at h
  cases ho : dn 11 (c :: s0) 0 jZ with
  | er e k => rw [ho] at h; simp at h
  | ok t2 r b2 en2 =>
   rw [ho] at h
   simp only at h
   cases r with
   | cons c2 r2 => simp at h
   | nil =>
    cases t2 with
    | none => simp at h
    | some t2 =>
     simp only at h
     obtain ⟨g1, g2, _⟩ := R7 11 _ 0 jZ t2 _ _ _ (by omega) rfl ho
     cases Ce : decide (t2.sz > 120) <;> rw [Ce] at h <;> simp only [cond_true, cond_false, Sum.inl.injEq, reduceCtorEq] at h
     subst h
     simp only [gt_iff_lt, decide_eq_false_iff_not] at Ce
     obtain ⟨rf', hrf⟩ := g2 true false
     exact ⟨by omega, ⟨g1.1, g1.2.1, fun _ => g1.2.2.1⟩, by simp only [w0]; rw [hrf]⟩
theorem Ux (t : Pt) (o : Nat) : ∀ nd ∈ t.enc o, Cg nd := by
 intro nd h
 rw [<- qF] at h
 obtain ⟨v, _, rfl⟩ := List.mem_map.1 h
 cases v with
 | bytes p => exact ⟨p, rfl⟩
 | _ => exact ⟨fun _ => false, kJ.symm⟩
theorem MJ {n : Nat} {t : Pt} (hn : 200 <= n) (h : qc t) : qR n (t.enc 0) = some true := by
 rcases PG (n := n) (l := t.enc 0) hn (Ux t 0) with ⟨_, _, _, h3⟩ | ⟨h1, _⟩
 ·exact h3
 ·exact absurd rfl (h1 t h)
end Go.Dec
