/- Part of a proof over this seat: a library of my own, and what it says of this seat. No statement is proved here. -/
import Derived.Test.YthhbdkdofhhoeaaGreatDoorPartBN
namespace Go.Dec
section
variable {n : Nat} {s r : List UInt8} {b : Nat} {en : List Bool} {l : List Nd} {rw' : List UInt8 × Int × StT -> Option (StT × Int)} {row : List UInt8 -> Nat -> List Bool -> Res (Option Pt)}
end
end Go.Dec
namespace Go.Dec
def Pt.kind : Pt -> Int
 | .empty => 0 | .bytes _ => 1 | .bol => 2 | .eol => 3 | .cat _ _ => 4 | .alt _ _ => 5 | .times _ _ _ => 6 | .group _ _ => 7 | .ref _ => 8
inductive NV where
 | empty | bol | eol
 | bytes (p : Nat -> Bool)
 | cat (a b : Int) | alt (a b : Int)
 | times (a lo hi : Int)
 | group (a : Int) (m : Nat)
 | ref (m : Nat)
def NV.node : NV -> Nd
 | .empty => (0, [0, 0, 0, 0], 0, 0, 0, 0, 0, ())
 | .bytes p => (1, wd p, 0, 0, 0, 0, 0, ())
 | .bol => (2, [0, 0, 0, 0], 0, 0, 0, 0, 0, ())
 | .eol => (3, [0, 0, 0, 0], 0, 0, 0, 0, 0, ())
 | .cat a b => (4, [0, 0, 0, 0], a, b, 0, 0, 0, ())
 | .alt a b => (5, [0, 0, 0, 0], a, b, 0, 0, 0, ())
 | .times a lo hi => (6, [0, 0, 0, 0], a, 0, lo, hi, 0, ())
 | .group a m => (7, [0, 0, 0, 0], a, 0, 0, 0, (m : Int), ())
 | .ref m => (8, [0, 0, 0, 0], 0, 0, 0, 0, (m : Int), ())
def fU (lo hi : Int) : Bool := decide (0 <= lo) && decide (lo <= 255) && (decide (hi = -1) || (decide (lo <= hi) && decide (1 <= hi) && decide (hi <= 255)))
def NV.ok : NV -> Bool
 | .bytes p => !iR p
 | .times _ lo hi => fU lo hi
 | .group _ m => decide (1 <= m) && decide (m <= 9)
 | .ref m => decide (1 <= m) && decide (m <= 9)
 | _ => true
def Eo (nd : Nd) : Prop := ∃ p, nd.2.1 = wd p
theorem zSw {x y : Nd} (h : x = y) : Ty.beq aB x y = true := (@beq_iff aB rfl x y).2 h
theorem zSx {x y : Nd} (h : ¬ x = y) : Ty.beq aB x y = false := beq_false (t := aB) rfl h
def Ol (nd : Nd) (e : Option Bool) : Prop := (e = some true ∧ ∃ v : NV, nd = v.node ∧ v.ok = true) ∨ (e = some false ∧ ∀ v : NV, nd = v.node -> v.ok = false)
theorem Nj (v : NV) : 0 <= v.node.1 ∧ v.node.1 <= 8 := by cases v <;> simp [NV.node]
section
variable {n : Nat} {w : List Int} {a b lo hi m : Int} {u : Unit}
theorem plain0 : bJ n (0, w, a, b, lo, hi, m, u) = some (0, [0, 0, 0, 0], 0, 0, 0, 0, 0, ()) := by simp [bJ]
theorem zSy : bJ n (1, w, a, b, lo, hi, m, u) = some (1, w, 0, 0, 0, 0, 0, ()) := by simp [bJ]
theorem zSz : bJ n (2, w, a, b, lo, hi, m, u) = some (2, [0, 0, 0, 0], 0, 0, 0, 0, 0, ()) := by simp [bJ]
theorem zTa : bJ n (3, w, a, b, lo, hi, m, u) = some (3, [0, 0, 0, 0], 0, 0, 0, 0, 0, ()) := by simp [bJ]
theorem zTb : bJ n (4, w, a, b, lo, hi, m, u) = some (4, [0, 0, 0, 0], a, b, 0, 0, 0, ()) := by simp [bJ]
theorem zTc : bJ n (5, w, a, b, lo, hi, m, u) = some (5, [0, 0, 0, 0], a, b, 0, 0, 0, ()) := by simp [bJ]
theorem zTd : bJ n (6, w, a, b, lo, hi, m, u) = some (6, [0, 0, 0, 0], a, 0, lo, hi, 0, ()) := by simp [bJ]
theorem zTe : bJ n (7, w, a, b, lo, hi, m, u) = some (7, [0, 0, 0, 0], a, 0, 0, 0, m, u) := by simp [bJ]
theorem plain8 : bJ n (8, w, a, b, lo, hi, m, u) = some (8, [0, 0, 0, 0], 0, 0, 0, 0, m, u) := by simp [bJ]
end
theorem zDy {n : Nat} {nd : Nd} (hw : Eo nd) : Ol nd (oH n nd) := by
 obtain ⟨k, w, a, b, lo, hi, m, u⟩ := nd
 obtain ⟨p, hp⟩ := hw
 simp only at hp
 subst hp
 unfold oH
 simp only
 by_cases h0 : k < 0
 ·rw [aD (by simp; omega)]
  exact Or.inr ⟨rfl, fun v hv => by have := Nj v; rw [<- hv] at this; omega⟩
 rw [aA (by simp; omega)]
 by_cases h8 : k > 8
 ·rw [aD (by simp; omega)]
  exact Or.inr ⟨rfl, fun v hv => by have := Nj v; rw [<- hv] at this; omega⟩
 rw [aA (by simp; omega)]
 have hcase : k = 0 ∨ k = 1 ∨ k = 2 ∨ k = 3 ∨ k = 4 ∨ k = 5 ∨ k = 6 ∨ k = 7 ∨ k = 8 := by omega
 have hbad : ∀ {nd' : Nd} {X : Option Bool}, (∀ v : NV, (k, wd p, a, b, lo, hi, m, u) = v.node -> (k, wd p, a, b, lo, hi, m, u) = nd') -> ¬ (k, wd p, a, b, lo, hi, m, u) = nd' -> Ol (k, wd p, a, b, lo, hi, m, u) (br (!(Ty.beq aB (k, wd p, a, b, lo, hi, m, u) nd')) (some false) X) := by
  intro nd' X h1 h2
  rw [zSx h2]
  exact Or.inr ⟨rfl, fun v hv => absurd (h1 v hv) h2⟩
 have hgood : ∀ {nd' : Nd} {X : Option Bool}, (k, wd p, a, b, lo, hi, m, u) = nd' -> (br (!(Ty.beq aB (k, wd p, a, b, lo, hi, m, u) nd')) (some false) X) = X := by
  intro nd' X h
  rw [zSw h]; rfl
 have hng : ∀ {m : Int} (v : NV), 1 <= m -> ∃ m' : Nat, m = (m' : Int) := fun {m} _ h => ⟨m.toNat, by omega⟩
 rcases hcase with rfl | rfl | rfl | rfl | rfl | rfl | rfl | rfl | rfl
 ·rw [plain0, aI]
  by_cases h : ((0 : Int), wd p, a, b, lo, hi, m, u) = ((0, [0, 0, 0, 0], 0, 0, 0, 0, 0, ()) : Nd)
  ·rw [hgood h]; exact Or.inl ⟨rfl, .empty, h, rfl⟩
  ·exact hbad (fun v hv => by rw [hv]; cases v <;> simp [NV.node] at hv ⊢) h
 ·rw [zSy, aI]
  by_cases h : ((1 : Int), wd p, a, b, lo, hi, m, u) = ((1, wd p, 0, 0, 0, 0, 0, ()) : Nd)
  ·rw [hgood h]
   rw [aD (by rfl)]
   rw [lI]
   cases he : iR p
   ·exact Or.inl ⟨rfl, .bytes p, h, by simp [NV.ok, he]⟩
   ·refine Or.inr ⟨rfl, fun v hv => ?_⟩
    have e1 := congrArg (fun x : Nd => x.2.1) hv
    have e0 := congrArg (fun x : Nd => x.1) hv
    cases v <;> simp [NV.node] at e0 e1
    simp only [NV.ok]
    rw [<- lI, <- e1, lI, he]; rfl
  ·exact hbad (fun v hv => by rw [hv]; cases v <;> simp [NV.node] at hv ⊢; exact hv.1.symm) h
 ·rw [zSz, aI]
  by_cases h : ((2 : Int), wd p, a, b, lo, hi, m, u) = ((2, [0, 0, 0, 0], 0, 0, 0, 0, 0, ()) : Nd)
  ·rw [hgood h]; exact Or.inl ⟨rfl, .bol, h, rfl⟩
  ·exact hbad (fun v hv => by rw [hv]; cases v <;> simp [NV.node] at hv ⊢) h
 ·rw [zTa, aI]
  by_cases h : ((3 : Int), wd p, a, b, lo, hi, m, u) = ((3, [0, 0, 0, 0], 0, 0, 0, 0, 0, ()) : Nd)
  ·rw [hgood h]; exact Or.inl ⟨rfl, .eol, h, rfl⟩
  ·exact hbad (fun v hv => by rw [hv]; cases v <;> simp [NV.node] at hv ⊢) h
 ·rw [zTb, aI]
  by_cases h : ((4 : Int), wd p, a, b, lo, hi, m, u) = ((4, [0, 0, 0, 0], a, b, 0, 0, 0, ()) : Nd)
  ·rw [hgood h]; exact Or.inl ⟨rfl, .cat a b, h, rfl⟩
  ·exact hbad (fun v hv => by rw [hv]; cases v <;> simp [NV.node] at hv ⊢; exact ⟨hv.2.1.symm, hv.2.2.1.symm⟩) h
 ·rw [zTc, aI]
  by_cases h : ((5 : Int), wd p, a, b, lo, hi, m, u) = ((5, [0, 0, 0, 0], a, b, 0, 0, 0, ()) : Nd)
  ·rw [hgood h]; exact Or.inl ⟨rfl, .alt a b, h, rfl⟩
  ·exact hbad (fun v hv => by rw [hv]; cases v <;> simp [NV.node] at hv ⊢; exact ⟨hv.2.1.symm, hv.2.2.1.symm⟩) h
 ·rw [zTd, aI]
  by_cases h : ((6 : Int), wd p, a, b, lo, hi, m, u) = ((6, [0, 0, 0, 0], a, 0, lo, hi, 0, ()) : Nd)
  ·rw [hgood h]
   rw [aA (by rfl), aD (by rfl)]
   have e : (br (decide (lo ≥ 0)) (br (decide (lo <= 255)) (br (hi == -1) (some true) (br (decide (hi ≥ if 1 > lo then 1 else lo)) (some (decide (hi <= 255))) (some false))) (some false)) (some false)) = some (fU lo hi) := by
    unfold fU
    by_cases g1 : 0 <= lo
    ·rw [aD (by simp; omega), decide_eq_true g1]
     by_cases g2 : lo <= 255
     ·rw [aD (by simp; omega), decide_eq_true g2]
      by_cases g3 : hi = -1
      ·subst g3; rfl
      ·rw [aA (by simp; omega), decide_eq_false g3]
       by_cases g4 : lo <= hi
       ·by_cases g5 : 1 <= hi
        ·rw [aD (by simp; split <;> omega), decide_eq_true g4, decide_eq_true g5]; rfl
        ·rw [aA (by simp; split <;> omega), decide_eq_false g5, decide_eq_true g4]; rfl
       ·rw [aA (by simp; split <;> omega), decide_eq_false g4]; rfl
     ·rw [aA (by simp; omega), decide_eq_false g2, Bool.and_false, Bool.false_and]
    ·rw [aA (by simp; omega), decide_eq_false g1]; rfl
   rw [e]
   cases ht : fU lo hi
   ·refine Or.inr ⟨rfl, fun v hv => ?_⟩
    have e1 := congrArg (fun x : Nd => x.2.2.2.2.1) hv
    have e2 := congrArg (fun x : Nd => x.2.2.2.2.2.1) hv
    have e0 := congrArg (fun x : Nd => x.1) hv
    cases v <;> simp [NV.node] at e0 e1 e2
    simp only [NV.ok]
    rw [<- e1, <- e2]; exact ht
   ·exact Or.inl ⟨rfl, .times a lo hi, h, ht⟩
  ·exact hbad (fun v hv => by rw [hv]; cases v <;> simp [NV.node] at hv ⊢; exact ⟨hv.2.1.symm, hv.2.2.2.1.symm, hv.2.2.2.2.1.symm⟩) h
 ·rw [zTe, aI]
  by_cases h : ((7 : Int), wd p, a, b, lo, hi, m, u) = ((7, [0, 0, 0, 0], a, 0, 0, 0, m, u) : Nd)
  ·rw [hgood h]
   rw [aA (by rfl), aA (by rfl), aD (by rfl), aD (by rfl)]
   by_cases g1 : 1 <= m
   ·rw [aD (by simp; omega)]
    by_cases g2 : m <= 9
    ·obtain ⟨m', rfl⟩ : ∃ m' : Nat, m = (m' : Int) := ⟨m.toNat, by omega⟩
     rw [decide_eq_true g2]
     exact Or.inl ⟨rfl, .group a m', h, by simp [NV.ok]; omega⟩
    ·rw [decide_eq_false g2]
     refine Or.inr ⟨rfl, fun v hv => ?_⟩
     have e1 := congrArg (fun x : Nd => x.2.2.2.2.2.2.1) hv
     have e0 := congrArg (fun x : Nd => x.1) hv
     cases v <;> simp [NV.node] at e0 e1
     simp [NV.ok]; omega
   ·rw [aA (by simp; omega)]
    refine Or.inr ⟨rfl, fun v hv => ?_⟩
    have e1 := congrArg (fun x : Nd => x.2.2.2.2.2.2.1) hv
    have e0 := congrArg (fun x : Nd => x.1) hv
    cases v <;> simp [NV.node] at e0 e1
    simp [NV.ok]; omega
  ·exact hbad (fun v hv => by rw [hv]; cases v <;> simp [NV.node] at hv ⊢; exact ⟨hv.2.1.symm, hv.2.2.2.2.2.symm⟩) h
 ·rw [plain8, aI]
  by_cases h : ((8 : Int), wd p, a, b, lo, hi, m, u) = ((8, [0, 0, 0, 0], 0, 0, 0, 0, m, u) : Nd)
  ·rw [hgood h]
   rw [aA (by rfl), aA (by rfl), aA (by rfl), aD (by rfl)]
   by_cases g1 : 1 <= m
   ·rw [aD (by simp; omega)]
    by_cases g2 : m <= 9
    ·obtain ⟨m', rfl⟩ : ∃ m' : Nat, m = (m' : Int) := ⟨m.toNat, by omega⟩
     rw [decide_eq_true g2]
     exact Or.inl ⟨rfl, .ref m', h, by simp [NV.ok]; omega⟩
    ·rw [decide_eq_false g2]
     refine Or.inr ⟨rfl, fun v hv => ?_⟩
     have e1 := congrArg (fun x : Nd => x.2.2.2.2.2.2.1) hv
     have e0 := congrArg (fun x : Nd => x.1) hv
     cases v <;> simp [NV.node] at e0 e1
     simp [NV.ok]; omega
   ·rw [aA (by simp; omega)]
    refine Or.inr ⟨rfl, fun v hv => ?_⟩
    have e1 := congrArg (fun x : Nd => x.2.2.2.2.2.2.1) hv
    have e0 := congrArg (fun x : Nd => x.1) hv
    cases v <;> simp [NV.node] at e0 e1
    simp [NV.ok]; omega
  ·exact hbad (fun v hv => by rw [hv]; cases v <;> simp [NV.node] at hv ⊢; exact hv.2.2.2.2.2.symm) h
end Go.Dec
namespace Go.Dec
def Pt.nv (o : Nat) : Pt -> NV
 | .empty => .empty
 | .bytes p => .bytes p
 | .bol => .bol
 | .eol => .eol
 | .cat a b => .cat (a.top o) (b.top (o + a.sz))
 | .alt a b => .alt (a.top o) (b.top (o + a.sz))
 | .times a lo hi => .times (a.top o) lo hi
 | .group a m => .group (a.top o) m
 | .ref m => .ref m
def Pt.zNz (o : Nat) : Pt -> List Nd
 | .cat a b => a.enc o ++ b.enc (o + a.sz)
 | .alt a b => a.enc o ++ b.enc (o + a.sz)
 | .times a _ _ => a.enc o
 | .group a _ => a.enc o
 | _ => []
theorem Pt.Zf (o : Nat) (t : Pt) : t.enc o = t.zNz o ++ [(t.nv o).node] := by
 cases t <;> rfl
theorem Pt.zOa (o : Nat) (t : Pt) : (t.zNz o).length + 1 = t.sz := by
 have := t.dR o
 rw [t.Zf] at this
 simpa using this
theorem Pt.sN (o : Nat) (t : Pt) : (t.nv o).node.1 = t.kind := by cases t <;> rfl
def At (l : List Nd) (o : Nat) (t : Pt) : Prop := ∃ pre post, l = pre ++ t.enc o ++ post ∧ pre.length = o
theorem At.node {l : List Nd} {o : Nat} {t : Pt} (h : At l o t) : l[o + t.sz - 1]? = some (t.nv o).node := by
 obtain ⟨pre, post, rfl, hp⟩ := h
 have hb := t.zOa o
 rw [t.Zf, <- List.append_assoc, List.append_assoc, List.getElem?_append_right (by rw [List.length_append]; omega)]
 rw [List.length_append, show o + t.sz - 1 - (pre.length + (t.zNz o).length) = 0 by omega]
 rfl
theorem At.len {l : List Nd} {o : Nat} {t : Pt} (h : At l o t) : o + t.sz <= l.length := by
 obtain ⟨pre, post, rfl, hp⟩ := h
 simp only [List.length_append, Pt.dR]; omega
theorem At.top {l : List Nd} {o : Nat} {t : Pt} (h : At l o t) : inB (t.top o) l.length = true ∧ ∀ d, aQ d l (t.top o) = (t.nv o).node := by
 have h1 := h.node
 have h2 := h.len
 have h3 := t.dZ
 have e : t.top o = ((o + t.sz - 1 : Nat) : Int) := by unfold Pt.top; omega
 rw [e]
 refine ⟨iN (by omega), fun d => ?_⟩
 rw [jC (by omega)]
 rw [List.getElem?_eq_getElem (by omega)] at h1
 exact Option.some.inj h1
theorem At.Nk {l : List Nd} {o : Nat} {a b : Pt} (h : At l o (.cat a b)) : At l o a ∧ At l (o + a.sz) b := by
 obtain ⟨pre, post, rfl, hp⟩ := h
 exact ⟨⟨pre, b.enc (o + a.sz) ++ ([(Pt.nv o (.cat a b)).node] ++ post), by simp [Pt.enc, Pt.nv, NV.node], hp⟩, ⟨pre ++ a.enc o, [(Pt.nv o (.cat a b)).node] ++ post, by simp [Pt.enc, Pt.nv, NV.node], by rw [List.length_append, Pt.dR, hp]⟩⟩
theorem At.alt1 {l : List Nd} {o : Nat} {a b : Pt} (h : At l o (.alt a b)) : At l o a ∧ At l (o + a.sz) b := by
 obtain ⟨pre, post, rfl, hp⟩ := h
 exact ⟨⟨pre, b.enc (o + a.sz) ++ ([(Pt.nv o (.alt a b)).node] ++ post), by simp [Pt.enc, Pt.nv, NV.node], hp⟩, ⟨pre ++ a.enc o, [(Pt.nv o (.alt a b)).node] ++ post, by simp [Pt.enc, Pt.nv, NV.node], by rw [List.length_append, Pt.dR, hp]⟩⟩
theorem At.Vp {l : List Nd} {o : Nat} {a : Pt} {lo hi : Int} (h : At l o (.times a lo hi)) : At l o a := by
 obtain ⟨pre, post, rfl, hp⟩ := h
 exact ⟨pre, [(Pt.nv o (.times a lo hi)).node] ++ post, by simp [Pt.enc, Pt.nv, NV.node], hp⟩
theorem At.Vq {l : List Nd} {o : Nat} {a : Pt} {m : Nat} (h : At l o (.group a m)) : At l o a := by
 obtain ⟨pre, post, rfl, hp⟩ := h
 exact ⟨pre, [(Pt.nv o (.group a m)).node] ++ post, by simp [Pt.enc, Pt.nv, NV.node], hp⟩
theorem At.self (t : Pt) : At (t.enc 0) 0 t := ⟨[], [], by simp, rfl⟩
def bY : Pt -> Bool
 | .bytes p => !iR p
 | .cat a b => bY a && bY b
 | .alt a b => bY a && bY b
 | .times a lo hi => bY a && fU lo hi
 | .group a m => bY a && (decide (1 <= m) && decide (m <= 9))
 | .ref m => decide (1 <= m) && decide (m <= 9)
 | _ => true
def cO : Pt -> Bool
 | .cat a b => cO a && cO b && (decide (a.kind ≠ 4) && decide (a.kind ≠ 5) && decide (b.kind ≠ 5))
 | .alt a b => cO a && cO b && decide (a.kind ≠ 5)
 | .times a _ _ => cO a && (decide (a.kind = 1) || decide (a.kind = 7) || decide (a.kind = 8))
 | .group a _ => cO a
 | _ => true
def fB : Pt -> Bool
 | .empty => false
 | .cat a b => fB a && fB b
 | .alt a b => fB a && fB b
 | .times a _ _ => fB a
 | .group a _ => fB a
 | _ => true
def encR : List Pt -> List Nd
 | [] => []
 | t :: st => encR st ++ t.enc (szA st)
def eG : List Pt -> List Int
 | [] => []
 | t :: st => eG st ++ [t.top (szA st)]
theorem xP : ∀ st : List Pt, (encR st).length = szA st
 | [] => rfl
 | t :: st => by simp only [encR, szA, List.length_append, xP st, Pt.dR]; omega
theorem mG : ∀ st : List Pt, (eG st).length = st.length
 | [] => rfl
 | t :: st => by simp only [eG, List.length_append, mG st, List.length_cons, List.length_nil]
def gN (len : Nat) (st : List Pt) (v : NV) : Option (List Pt) :=
 match v with
 | .empty => if len > 1 then none else some (.empty :: st)
 | .bytes p => some (.bytes p :: st)
 | .bol => some (.bol :: st)
 | .eol => some (.eol :: st)
 | .ref m => some (.ref m :: st)
 | .cat x y => match st with
  | b :: a :: st' => if a.top (szA st') = x ∧ b.top (szA st' + a.sz) = y ∧ a.kind ≠ 4 ∧ a.kind ≠ 5 ∧ b.kind ≠ 5 then some (.cat a b :: st') else none
  | _ => none
 | .alt x y => match st with
  | b :: a :: st' => if a.top (szA st') = x ∧ b.top (szA st' + a.sz) = y ∧ a.kind ≠ 5 then some (.alt a b :: st') else none
  | _ => none
 | .times x lo hi => match st with
  | a :: st' => if a.top (szA st') = x ∧ (a.kind = 1 ∨ a.kind = 7 ∨ a.kind = 8) then some (.times a lo hi :: st') else none
  | _ => none
 | .group x m => match st with
  | a :: st' => if a.top (szA st') = x then some (.group a m :: st') else none
  | _ => none
theorem xQ (st : List Pt) (a : Pt) : szA (a :: st) = szA st + a.sz := by simp only [szA]; omega
theorem Dr {len : Nat} {st st2 : List Pt} {v : NV} (h : gN len st v = some st2) : encR st2 = encR st ++ [v.node] := by
 unfold gN at h
 cases v <;> simp only at h
 case empty => split at h <;> simp at h; subst h; rfl
 case bytes p => simp at h; subst h; rfl
 case bol => simp at h; subst h; rfl
 case eol => simp at h; subst h; rfl
 case ref m => simp at h; subst h; rfl
 case cat x y =>
  match st, h with
  | [], h => simp at h
  | [_], h => simp at h
  | b :: a :: st', h =>
   simp only at h
   split at h <;> simp at h
   rename_i hc
   subst h
   simp only [encR, Pt.enc, xQ, List.append_assoc, NV.node, hc.1, hc.2.1]
 case alt x y =>
  match st, h with
  | [], h => simp at h
  | [_], h => simp at h
  | b :: a :: st', h =>
   simp only at h
   split at h <;> simp at h
   rename_i hc
   subst h
   simp only [encR, Pt.enc, xQ, List.append_assoc, NV.node, hc.1, hc.2.1]
 case times x lo hi =>
  match st, h with
  | [], h => simp at h
  | a :: st', h =>
   simp only at h
   split at h <;> simp at h
   rename_i hc
   subst h
   simp only [encR, Pt.enc, List.append_assoc, NV.node, hc.1]
 case group x m =>
  match st, h with
  | [], h => simp at h
  | a :: st', h =>
   simp only at h
   split at h <;> simp at h
   rename_i hc
   subst h
   simp only [encR, Pt.enc, List.append_assoc, NV.node, hc]
def wN (len : Nat) (t : Pt) : Prop := bY t = true ∧ cO t = true ∧ (len > 1 -> fB t = true)
theorem zOb {len : Nat} {st st2 : List Pt} {v : NV} (hv : v.ok = true) (hst : ∀ t ∈ st, wN len t) (h : gN len st v = some st2) : ∀ t ∈ st2, wN len t := by
 unfold gN at h
 cases v <;> simp only at h
 case empty =>
  split at h <;> simp at h; subst h
  rename_i hl
  intro t ht
  rcases List.mem_cons.1 ht with rfl | ht
  ·exact ⟨rfl, rfl, fun h => absurd h hl⟩
  ·exact hst t ht
 case bytes p => simp at h; subst h; intro t ht; rcases List.mem_cons.1 ht with rfl | ht; exact ⟨hv, rfl, fun _ => rfl⟩; exact hst t ht
 case bol => simp at h; subst h; intro t ht; rcases List.mem_cons.1 ht with rfl | ht; exact ⟨rfl, rfl, fun _ => rfl⟩; exact hst t ht
 case eol => simp at h; subst h; intro t ht; rcases List.mem_cons.1 ht with rfl | ht; exact ⟨rfl, rfl, fun _ => rfl⟩; exact hst t ht
 case ref m => simp at h; subst h; intro t ht; rcases List.mem_cons.1 ht with rfl | ht; exact ⟨hv, rfl, fun _ => rfl⟩; exact hst t ht
 case cat x y =>
  match st, h with
  | [], h => simp at h
  | [_], h => simp at h
  | b :: a :: st', h =>
   simp only at h
   split at h <;> simp at h
   rename_i hc
   subst h
   intro t ht
   have ha := hst a (by simp)
   have hb := hst b (by simp)
   rcases List.mem_cons.1 ht with rfl | ht
   ·exact ⟨by simp [bY, ha.1, hb.1], by simp [cO, ha.2.1, hb.2.1, hc.2.2.1, hc.2.2.2.1, hc.2.2.2.2], fun hl => by simp [fB, ha.2.2 hl, hb.2.2 hl]⟩
   ·exact hst t (by simp [ht])
 case alt x y =>
  match st, h with
  | [], h => simp at h
  | [_], h => simp at h
  | b :: a :: st', h =>
   simp only at h
   split at h <;> simp at h
   rename_i hc
   subst h
   intro t ht
   have ha := hst a (by simp)
   have hb := hst b (by simp)
   rcases List.mem_cons.1 ht with rfl | ht
   ·exact ⟨by simp [bY, ha.1, hb.1], by simp [cO, ha.2.1, hb.2.1, hc.2.2], fun hl => by simp [fB, ha.2.2 hl, hb.2.2 hl]⟩
   ·exact hst t (by simp [ht])
 case times x lo hi =>
  match st, h with
  | [], h => simp at h
  | a :: st', h =>
   simp only at h
   split at h <;> simp at h
   rename_i hc
   subst h
   intro t ht
   have ha := hst a (by simp)
   rcases List.mem_cons.1 ht with rfl | ht
   ·refine ⟨by simp only [bY, ha.1, Bool.true_and]; exact hv, ?_, fun hl => by simp [fB, ha.2.2 hl]⟩
    simp only [cO, ha.2.1, Bool.true_and, Bool.or_eq_true, decide_eq_true_eq]
    rcases hc.2 with h | h | h
    ·exact Or.inl (Or.inl h)
    ·exact Or.inl (Or.inr h)
    ·exact Or.inr h
   ·exact hst t (by simp [ht])
 case group x m =>
  match st, h with
  | [], h => simp at h
  | a :: st', h =>
   simp only at h
   split at h <;> simp at h
   rename_i hc
   subst h
   intro t ht
   have ha := hst a (by simp)
   rcases List.mem_cons.1 ht with rfl | ht
   ·exact ⟨by simp only [bY, ha.1, Bool.true_and]; exact hv, by simp [cO, ha.2.1], fun hl => by simp [fB, ha.2.2 hl]⟩
   ·exact hst t (by simp [ht])
def mQ (len : Nat) : List NV -> List Pt -> Option (List Pt)
 | [], st => some st
 | v :: vs, st => match gN len st v with
  | none => none
  | some st2 => mQ len vs st2
theorem rO (len : Nat) : ∀ (a b : List NV) (st : List Pt), mQ len (a ++ b) st = (mQ len a st).bind (mQ len b)
 | [], b, st => rfl
 | v :: a, b, st => by
  simp only [List.cons_append, mQ]
  cases gN len st v with
  | none => rfl
  | some st2 => exact rO len a b st2
def Pt.nvs (o : Nat) : Pt -> List NV
 | .cat a b => a.nvs o ++ b.nvs (o + a.sz) ++ [.cat (a.top o) (b.top (o + a.sz))]
 | .alt a b => a.nvs o ++ b.nvs (o + a.sz) ++ [.alt (a.top o) (b.top (o + a.sz))]
 | .times a lo hi => a.nvs o ++ [.times (a.top o) lo hi]
 | .group a m => a.nvs o ++ [.group (a.top o) m]
 | .empty => [.empty]
 | .bytes p => [.bytes p]
 | .bol => [.bol]
 | .eol => [.eol]
 | .ref m => [.ref m]
theorem sO : ∀ (t : Pt) (o : Nat), (t.nvs o).map NV.node = t.enc o
 | .cat a b, o => by simp [Pt.nvs, Pt.enc, sO a, sO b, NV.node]
 | .alt a b, o => by simp [Pt.nvs, Pt.enc, sO a, sO b, NV.node]
 | .times a _ _, o => by simp [Pt.nvs, Pt.enc, sO a, NV.node]
 | .group a _, o => by simp [Pt.nvs, Pt.enc, sO a, NV.node]
 | .empty, _ | .bytes _, _ | .bol, _ | .eol, _ | .ref _, _ => rfl
theorem yX : ∀ (t : Pt) (o : Nat), bY t = true -> ∀ v ∈ t.nvs o, v.ok = true
 | .cat a b, o, h, v, hv => by
  simp only [bY, Bool.and_eq_true] at h
  simp only [Pt.nvs, List.mem_append, List.mem_singleton] at hv
  rcases hv with (hv | hv) | rfl
  ·exact yX a o h.1 v hv
  ·exact yX b _ h.2 v hv
  ·rfl
 | .alt a b, o, h, v, hv => by
  simp only [bY, Bool.and_eq_true] at h
  simp only [Pt.nvs, List.mem_append, List.mem_singleton] at hv
  rcases hv with (hv | hv) | rfl
  ·exact yX a o h.1 v hv
  ·exact yX b _ h.2 v hv
  ·rfl
 | .times a lo hi, o, h, v, hv => by
  simp only [bY, Bool.and_eq_true] at h
  simp only [Pt.nvs, List.mem_append, List.mem_singleton] at hv
  rcases hv with hv | rfl
  ·exact yX a o h.1 v hv
  ·exact h.2
 | .group a m, o, h, v, hv => by
  simp only [bY, Bool.and_eq_true] at h
  simp only [Pt.nvs, List.mem_append, List.mem_singleton] at hv
  rcases hv with hv | rfl
  ·exact yX a o h.1 v hv
  ·simp only [NV.ok, Bool.and_eq_true]; exact h.2
 | .empty, _, h, v, hv => by simp only [Pt.nvs, List.mem_singleton] at hv; subst hv; rfl
 | .bytes _, _, h, v, hv => by simp only [Pt.nvs, List.mem_singleton] at hv; subst hv; exact h
 | .bol, _, h, v, hv => by simp only [Pt.nvs, List.mem_singleton] at hv; subst hv; rfl
 | .eol, _, h, v, hv => by simp only [Pt.nvs, List.mem_singleton] at hv; subst hv; rfl
 | .ref _, _, h, v, hv => by simp only [Pt.nvs, List.mem_singleton] at hv; subst hv; exact h
theorem qD (len : Nat) : ∀ (t : Pt) (st : List Pt), cO t = true -> (len > 1 -> fB t = true) -> mQ len (t.nvs (szA st)) st = some (t :: st)
 | .cat a b, st, h, hn => by
  simp only [cO, Bool.and_eq_true, decide_eq_true_eq] at h
  simp only [fB, Bool.and_eq_true] at hn
  have ha := qD len a st h.1.1 (fun hl => (hn hl).1)
  have hb := qD len b (a :: st) h.1.2 (fun hl => (hn hl).2)
  rw [xQ] at hb
  simp only [Pt.nvs]
  rw [rO, rO, ha]
  simp only [Option.bind_some]
  rw [hb]
  simp only [Option.bind_some, mQ, gN]
  rw [if_pos (by refine ⟨?_, ?_, h.2.1.1, h.2.1.2, h.2.2⟩ <;> first | trivial | rfl)]
 | .alt a b, st, h, hn => by
  simp only [cO, Bool.and_eq_true, decide_eq_true_eq] at h
  simp only [fB, Bool.and_eq_true] at hn
  have ha := qD len a st h.1.1 (fun hl => (hn hl).1)
  have hb := qD len b (a :: st) h.1.2 (fun hl => (hn hl).2)
  rw [xQ] at hb
  simp only [Pt.nvs]
  rw [rO, rO, ha]
  simp only [Option.bind_some]
  rw [hb]
  simp only [Option.bind_some, mQ, gN]
  rw [if_pos (by refine ⟨?_, ?_, h.2⟩ <;> first | trivial | rfl)]
 | .times a lo hi, st, h, hn => by
  simp only [cO, Bool.and_eq_true, Bool.or_eq_true, decide_eq_true_eq] at h
  simp only [fB] at hn
  have ha := qD len a st h.1 hn
  simp only [Pt.nvs]
  rw [rO, ha]
  simp only [Option.bind_some, mQ, gN]
  rw [if_pos (by refine ⟨?_, by rcases h.2 with (h | h) | h; exact Or.inl h; exact Or.inr (Or.inl h); exact Or.inr (Or.inr h)⟩; first | trivial | rfl)]
 | .group a m, st, h, hn => by
  simp only [cO] at h
  simp only [fB] at hn
  have ha := qD len a st h hn
  simp only [Pt.nvs]
  rw [rO, ha]
  simp only [Option.bind_some, mQ, gN]
  rw [if_pos (by first | trivial | rfl)]
 | .empty, st, h, hn => by
  simp only [Pt.nvs, mQ, gN]
  rw [if_neg (fun hl => by simp [fB] at hn; omega)]
 | .bytes _, st, _, _ => rfl
 | .bol, st, _, _ => rfl
 | .eol, st, _, _ => rfl
 | .ref _, st, _, _ => rfl
end Go.Dec
namespace Go.Dec
theorem zTf {n : Nat} (hn : 5 <= n) {k : Int} (hk : 0 <= k) (hk8 : k <= 8) : mO n ([1, 7, 8], k) = some (decide (k = 1) || decide (k = 7) || decide (k = 8)) := by
 obtain ⟨n, rfl⟩ : ∃ m, n = m + 5 := ⟨n - 5, by omega⟩
 have hcase : k = 0 ∨ k = 1 ∨ k = 2 ∨ k = 3 ∨ k = 4 ∨ k = 5 ∨ k = 6 ∨ k = 7 ∨ k = 8 := by omega
 rcases hcase with rfl | rfl | rfl | rfl | rfl | rfl | rfl | rfl | rfl <;> rfl
theorem zDz (t : Pt) : 0 <= t.kind ∧ t.kind <= 8 := by cases t <;> simp [Pt.kind]
section
variable {n : Nat} {l : List Nd} {st : List Pt}
theorem zLl {i : Nat} {a b : Pt} (h : encR (b :: a :: st) = l.take i) : At l (szA st) a ∧ At l (szA st + a.sz) b := by
 have hl : l = encR (b :: a :: st) ++ l.drop i := by rw [h, List.take_append_drop]
 simp only [encR] at hl
 refine ⟨⟨encR st, b.enc (szA st + a.sz) ++ l.drop i, ?_, xP st⟩, ⟨encR st ++ a.enc (szA st), l.drop i, ?_, by rw [List.length_append, xP, Pt.dR]⟩⟩
 ·rw [xQ] at hl; rw [List.append_assoc] at hl ⊢; rw [List.append_assoc] at hl; exact hl
 ·rw [xQ] at hl; exact hl
theorem at_one {i : Nat} {a : Pt} (h : encR (a :: st) = l.take i) : At l (szA st) a := by
 have hl : l = encR (a :: st) ++ l.drop i := by rw [h, List.take_append_drop]
 exact ⟨encR st, l.drop i, hl, xP st⟩
theorem vL {v : NV} (h : v.node.1 ≠ 4) (h2 : v.node.1 ≠ 5) (h3 : v.node.1 ≠ 6) : iX n (l, v.node) = some true := by
 unfold iX
 simp only
 rw [aA (by simpa using h), aA (by simpa using h2), aA (by simpa using h3)]
theorem zOc {oa ob' : Nat} {a b : Pt} (ha : At l oa a) (hb : At l ob' b) : iX n (l, (NV.cat (a.top oa) (b.top ob')).node) = some (decide (a.kind ≠ 4 ∧ a.kind ≠ 5 ∧ b.kind ≠ 5)) := by
 unfold iX
 simp only [NV.node]
 rw [aD (by rfl), aC ha.top.1, ha.top.2, Pt.sN, aC ha.top.1, aC hb.top.1, hb.top.2, Pt.sN]
 by_cases h1 : a.kind = 4
 ·rw [aA (by simp [h1]), decide_eq_false (by intro h; exact h.1 h1)]
 ·rw [aD (by simpa using h1)]
  by_cases h2 : a.kind = 5
  ·rw [aA (by simp [h2]), decide_eq_false (by intro h; exact h.2.1 h2)]
  ·rw [aD (by simpa using h2)]
   congr 1
   rw [Bool.eq_iff_iff]; simp [h1, h2]
theorem zOd {oa : Nat} {y : Int} {a : Pt} (ha : At l oa a) : iX n (l, (NV.alt (a.top oa) y).node) = some (decide (a.kind ≠ 5)) := by
 unfold iX
 simp only [NV.node]
 rw [aA (by rfl), aD (by rfl), aC ha.top.1, ha.top.2, Pt.sN]
 congr 1
 rw [Bool.eq_iff_iff]; simp
theorem zJi {oa : Nat} {lo hi : Int} {a : Pt} (hn : 5 <= n) (ha : At l oa a) : iX n (l, (NV.times (a.top oa) lo hi).node) = some (decide (a.kind = 1) || decide (a.kind = 7) || decide (a.kind = 8)) := by
 unfold iX
 simp only [NV.node]
 rw [aA (by rfl), aA (by rfl), aD (by rfl), aC ha.top.1, ha.top.2, Pt.sN, zTf hn (zDz a).1 (zDz a).2]
 rfl
def NV.parts : NV -> Nat
 | .cat _ _ | .alt _ _ => 2
 | .times _ _ _ | .group _ _ => 1
 | _ => 0
theorem parts_eq (v : NV) : gD n v.node = some (v.parts : Int) := by cases v <;> rfl
theorem Xu (a : Pt) : (eG (a :: st)).take st.length = eG st := by
 simp only [eG]; rw [List.take_append_of_le_length (by rw [mG]; omega), List.take_of_length_le (by rw [mG]; omega)]
theorem zEa (a b : Pt) : (eG (b :: a :: st)).take st.length = eG st := by
 rw [eG, List.take_append_of_le_length (by rw [mG]; simp), Xu]
theorem Xv (a : Pt) : (eG (a :: st)).getD (0 + st.length + 0) 0 = a.top (szA st) := by
 rw [eG, List.getD_eq_getElem?_getD, List.getElem?_append_right (by rw [mG]; omega), mG]; simp
theorem zEb (a b : Pt) : (eG (b :: a :: st)).getD (0 + st.length + 0) 0 = a.top (szA st) := by
 rw [eG, List.getD_eq_getElem?_getD, List.getElem?_append_left (by rw [mG]; simp), <- List.getD_eq_getElem?_getD, Xv]
theorem zEc (a b : Pt) : (eG (b :: a :: st)).getD (0 + st.length + 1) 0 = b.top (szA st + a.sz) := by
 rw [eG, List.getD_eq_getElem?_getD, List.getElem?_append_right (by rw [mG]; simp), mG, xQ]; simp
theorem zEd {g : List Nd × List Nd × Int × Int × List Int × Unit -> Option Bool} {i : Nat} {v : NV} (hn : 5 <= n) (hl : l.length < 1000000) (hi : i < l.length) (hv : l[i]? = some v.node) (hok : v.ok = true) (hw : Eo v.node) (hst : st.length <= i) (hsz : szA st = i) (he : encR st = l.take i) :
  eZ n g (l, l, (l.length : Int), (i : Int), eG st, ()) = match gN l.length st v with
   | none => some false
   | some st2 => g (l, l, (l.length : Int), ((i + 1 : Nat) : Int), eG st2, ()) := by
 unfold eZ
 simp only
 have hget : ∀ d, aQ d l (i : Int) = v.node := by
  intro d
  rw [jC hi]
  rw [List.getElem?_eq_getElem hi] at hv
  exact Option.some.inj hv
 rw [aD (by simp; omega), aC (iN hi), hget, parts_eq]
 simp only [aI]
 have hone : oH n v.node = some true := by
  rcases zDy (n := n) hw with ⟨h, _⟩ | ⟨_, h⟩
  ·exact h
  ·have := h v rfl; rw [hok] at this; exact absurd this (by simp)
 rw [hone]
 simp only [aI, Bool.not_true, bC]
 have hi1 : IntKind.wrap .i64 ((i : Int) + 1) = ((i + 1 : Nat) : Int) := by rw [bG (by omega) (by omega)]; rfl
 have hlen := mG st
 have hfin : ∀ (v0 : NV) (k : Nat) (st2 : List Pt), k <= st.length -> eG st2 = (eG st).take k ++ [(i : Int)] ->
   chk ((decide ((0 : Int) <= (k : Int)) && decide ((k : Int) <= (st.length : Int)))) (
     chk ((Nat.ble ((k : Int).toNat) st.length && Nat.ble ((((k : Int).toNat) + ([(i : Int)] : List Int).length) * 8) room)) (
      g (l, l, (l.length : Int), IntKind.wrap .i64 ((i : Int) + 1), (eG st).take ((k : Int).toNat) ++ [(i : Int)], ()))) = g (l, l, (l.length : Int), ((i + 1 : Nat) : Int), eG st2, ()) := by
  intro v0 k st2 hk h2
  rw [aC (by simp; omega), aC (by simp [room]; omega), hi1, Int.toNat_natCast, h2]
 have hd : Ty.dflt (.int .i64) = (0 : Int) := rfl
 have hK : ∀ (p : Nat), p <= st.length -> IntKind.wrap .i64 (((st.length : Nat) : Int) - (p : Int)) = ((st.length - p : Nat) : Int) := by
  intro p hp; rw [bG (by omega) (by omega)]; omega
 have htop : ∀ t : Pt, t.sz = 1 -> eG (t :: st) = (eG st).take st.length ++ [(i : Int)] := by
  intro t ht
  rw [List.take_of_length_le (by omega)]
  simp only [eG, Pt.top, ht, hsz]; congr 2; omega
 rw [hlen]
 have hcut : ∀ (p : Nat), p <= st.length -> ((st.length - ((st.length - p : Nat) : Int).toNat : Nat) : Int) = (p : Int) := by
  intro p hp; rw [Int.toNat_natCast]; omega
 cases v with
 | empty =>
  rw [show (NV.empty).parts = 0 from rfl, hK 0 (by omega), aA (by simp), aD (by rfl)]
  by_cases h1 : l.length > 1
  ·rw [aD (by simp; omega)]; simp only [gN]; rw [if_pos h1]
  ·rw [aA (by simp; omega), aC (by simp), hcut 0 (by omega), aA (by simp), vL (by simp [NV.node]) (by simp [NV.node]) (by simp [NV.node])]
   simp only [aI, Bool.not_true, bC, gN]
   rw [if_neg h1]
   exact hfin .empty _ _ (by omega) (htop .empty rfl)
 | bytes p =>
  rw [show (NV.bytes p).parts = 0 from rfl, hK 0 (by omega), aA (by simp), aA (by rfl), aC (by simp), hcut 0 (by omega), aA (by simp), vL (by simp [NV.node]) (by simp [NV.node]) (by simp [NV.node])]
  simp only [aI, Bool.not_true, bC, gN]
  exact hfin .empty _ _ (by omega) (htop (.bytes p) rfl)
 | bol =>
  rw [show (NV.bol).parts = 0 from rfl, hK 0 (by omega), aA (by simp), aA (by rfl), aC (by simp), hcut 0 (by omega), aA (by simp), vL (by simp [NV.node]) (by simp [NV.node]) (by simp [NV.node])]
  simp only [aI, Bool.not_true, bC, gN]
  exact hfin .empty _ _ (by omega) (htop .bol rfl)
 | eol =>
  rw [show (NV.eol).parts = 0 from rfl, hK 0 (by omega), aA (by simp), aA (by rfl), aC (by simp), hcut 0 (by omega), aA (by simp), vL (by simp [NV.node]) (by simp [NV.node]) (by simp [NV.node])]
  simp only [aI, Bool.not_true, bC, gN]
  exact hfin .empty _ _ (by omega) (htop .eol rfl)
 | ref m =>
  rw [show (NV.ref m).parts = 0 from rfl, hK 0 (by omega), aA (by simp), aA (by rfl), aC (by simp), hcut 0 (by omega), aA (by simp), vL (by simp [NV.node]) (by simp [NV.node]) (by simp [NV.node])]
  simp only [aI, Bool.not_true, bC, gN]
  exact hfin .empty _ _ (by omega) (htop (.ref m) rfl)
 | times x lo hi =>
  cases st with
  | nil => rfl
  | cons a st =>
   have ha : At l (szA st) a := at_one he
   rw [show (NV.times x lo hi).parts = 1 from rfl, hK 1 (by simp), aA (by simp), aA (by rfl), aC (by simp; omega), hcut 1 (by simp), aD (by rfl)]
   simp only [List.length_cons, Nat.add_sub_cancel, Int.toNat_natCast]
   rw [aC (by simp [inB]), aC (by simp), hd, show (0 : Int).toNat = 0 from rfl, Xv]
   simp only [gN, NV.node]
   by_cases hx : a.top (szA st) = x
   ·subst hx
    rw [aA (by simp), aA (by rfl)]
    have hf := zJi (n := n) (lo := lo) (hi := hi) hn ha
    simp only [NV.node] at hf
    rw [hf]
    simp only [aI]
    have hlt := a.dZ
    by_cases hk : a.kind = 1 ∨ a.kind = 7 ∨ a.kind = 8
    ·rw [if_pos ⟨trivial, hk⟩, aA (by rcases hk with h | h | h <;> simp [h])]
     have e : eG (.times a lo hi :: st) = (eG (a :: st)).take st.length ++ [(i : Int)] := by
      rw [Xu]; simp only [eG, Pt.top, Pt.sz]; rw [xQ] at hsz; congr 2; omega
     have := hfin .empty st.length (.times a lo hi :: st) (by simp) e
     simpa using this
    ·rw [if_neg (fun h => hk h.2), aD (by simp only [not_or] at hk; simp [hk.1, hk.2.1, hk.2.2])]
   ·rw [if_neg (fun h => hx h.1), aD (by simpa using hx)]
 | group x m =>
  cases st with
  | nil => rfl
  | cons a st =>
   have ha : At l (szA st) a := at_one he
   rw [show (NV.group x m).parts = 1 from rfl, hK 1 (by simp), aA (by simp), aA (by rfl), aC (by simp; omega), hcut 1 (by simp), aD (by rfl)]
   simp only [List.length_cons, Nat.add_sub_cancel, Int.toNat_natCast]
   rw [aC (by simp [inB]), aC (by simp), hd, show (0 : Int).toNat = 0 from rfl, Xv]
   simp only [gN, NV.node]
   by_cases hx : a.top (szA st) = x
   ·subst hx
    rw [aA (by simp), aA (by rfl)]
    have hf := vL (n := n) (l := l) (v := .group (a.top (szA st)) m) (by simp [NV.node]) (by simp [NV.node]) (by simp [NV.node])
    simp only [NV.node] at hf
    rw [hf]
    simp only [aI]
    have hlt := a.dZ
    rw [if_pos trivial, aA (by rfl)]
    have e : eG (.group a m :: st) = (eG (a :: st)).take st.length ++ [(i : Int)] := by
     rw [Xu]; simp only [eG, Pt.top, Pt.sz]; rw [xQ] at hsz; congr 2; omega
    have := hfin .empty st.length (.group a m :: st) (by simp) e
    simpa using this
   ·rw [if_neg hx, aD (by simpa using hx)]
 | cat x y =>
  match st, hlen, hsz, he, hst, hK, hcut, hfin with
  | [], _, _, _, _, _, _, _ => rfl
  | [_], _, _, _, _, _, _, _ => rfl
  | b :: a :: st, hlen, hsz, he, hst, hK, hcut, hfin =>
   obtain ⟨ha, hb⟩ := zLl he
   rw [show (NV.cat x y).parts = 2 from rfl, hK 2 (by simp), aA (by simp), aA (by rfl), aC (by simp; omega), hcut 2 (by simp), aD (by rfl)]
   simp only [List.length_cons, Nat.add_sub_cancel, Int.toNat_natCast, show ∀ k, k + 1 + 1 - 2 = k from fun k => rfl]
   rw [aC (by simp [inB]; omega), aC (by simp; omega), hd, show (0 : Int).toNat = 0 from rfl, show (1 : Int).toNat = 1 from rfl, zEb, zEc]
   simp only [gN, NV.node]
   by_cases hx : a.top (szA st) = x
   ·subst hx
    rw [aA (by simp), aD (by rfl), aC (by simp [inB]; omega), aC (by simp)]
    by_cases hy : b.top (szA st + a.sz) = y
    ·subst hy
     rw [aA (by simp)]
     have hf := zOc (n := n) ha hb
     simp only [NV.node] at hf
     rw [hf]
     simp only [aI]
     have hlt := a.dZ
     by_cases hk : a.kind ≠ 4 ∧ a.kind ≠ 5 ∧ b.kind ≠ 5
     ·rw [if_pos ⟨trivial, trivial, hk⟩, decide_eq_true hk, aA (by rfl)]
      have e : eG (.cat a b :: st) = (eG (b :: a :: st)).take st.length ++ [(i : Int)] := by
       rw [zEa]; simp only [eG, Pt.top, Pt.sz]; rw [xQ, xQ] at hsz; congr 2; omega
      have := hfin .empty st.length (.cat a b :: st) (by simp; omega) e
      simpa using this
     ·rw [if_neg (fun h => hk h.2.2), decide_eq_false hk, aD (by rfl)]
    ·rw [if_neg (fun h => hy h.2.1), aD (by simpa using hy)]
   ·rw [if_neg (fun h => hx h.1), aD (by simpa using hx)]
 | alt x y =>
  match st, hlen, hsz, he, hst, hK, hcut, hfin with
  | [], _, _, _, _, _, _, _ => rfl
  | [_], _, _, _, _, _, _, _ => rfl
  | b :: a :: st, hlen, hsz, he, hst, hK, hcut, hfin =>
   obtain ⟨ha, hb⟩ := zLl he
   rw [show (NV.alt x y).parts = 2 from rfl, hK 2 (by simp), aA (by simp), aA (by rfl), aC (by simp; omega), hcut 2 (by simp), aD (by rfl)]
   simp only [List.length_cons, Nat.add_sub_cancel, Int.toNat_natCast, show ∀ k, k + 1 + 1 - 2 = k from fun k => rfl]
   rw [aC (by simp [inB]; omega), aC (by simp; omega), hd, show (0 : Int).toNat = 0 from rfl, show (1 : Int).toNat = 1 from rfl, zEb, zEc]
   simp only [gN, NV.node]
   by_cases hx : a.top (szA st) = x
   ·subst hx
    rw [aA (by simp), aD (by rfl), aC (by simp [inB]; omega), aC (by simp)]
    by_cases hy : b.top (szA st + a.sz) = y
    ·subst hy
     rw [aA (by simp)]
     have hf := zOd (n := n) (y := b.top (szA st + a.sz)) ha
     simp only [NV.node] at hf
     rw [hf]
     simp only [aI]
     have hlt := a.dZ
     by_cases hk : a.kind ≠ 5
     ·rw [if_pos ⟨trivial, trivial, hk⟩, decide_eq_true hk, aA (by rfl)]
      have e : eG (.alt a b :: st) = (eG (b :: a :: st)).take st.length ++ [(i : Int)] := by
       rw [zEa]; simp only [eG, Pt.top, Pt.sz]; rw [xQ, xQ] at hsz; congr 2; omega
      have := hfin .empty st.length (.alt a b :: st) (by simp; omega) e
      simpa using this
     ·rw [if_neg (fun h => hk h.2.2), decide_eq_false hk, aD (by rfl)]
    ·rw [if_neg (fun h => hy h.2.1), aD (by simpa using hy)]
   ·rw [if_neg (fun h => hx h.1), aD (by simpa using hx)]
end
end Go.Dec
namespace Go.Dec
theorem zEe : ∀ st : List Pt, st.length <= szA st
 | [] => Nat.le_refl _
 | t :: st => by have := zEe st; have := t.dZ; simp only [List.length_cons, szA]; omega
theorem zEf {len : Nat} {st st2 : List Pt} {v : NV} (h : gN len st v = some st2) : szA st2 = szA st + 1 := by
 have := congrArg List.length (Dr h)
 rw [List.length_append, xP, xP] at this
 simpa using this
section
variable {n : Nat} {l : List Nd}
theorem Nl {i : Nat} {x : Nd} (h : l[i]? = some x) : l.take (i + 1) = l.take i ++ [x] := by
 rw [List.take_add_one, h]; rfl
theorem zGq (hn : 5 <= n) (hl : l.length < 1000000) (hw : ∀ nd ∈ l, Eo nd) : ∀ (vs : List NV) (i : Nat) (st : List Pt) (m : Nat), vs.map NV.node = l.drop i -> (∀ v ∈ vs, v.ok = true) -> i <= l.length -> szA st = i -> encR st = l.take i -> vs.length < m ->
  fix (eZ n) m (l, l, (l.length : Int), (i : Int), eG st, ()) = match mQ l.length vs st with
   | none => some false
   | some st2 => some (decide (st2.length = 1)) := by
 intro vs
 induction vs with
 | nil =>
  intro i st m hvs _ hi hsz he hm
  have hi2 : i = l.length := by
   have := congrArg List.length hvs
   rw [List.length_drop] at this; simp at this; omega
  rw [dM hm, eZ]
  simp only
  rw [aA (by simp; omega), mG]
  simp only [mQ]
  congr 1
  rw [Bool.eq_iff_iff]; simp; omega
 | cons v vs ih =>
  intro i st m hvs hok hi hsz he hm
  have hil : i < l.length := by
   have := congrArg List.length hvs
   rw [List.length_drop] at this; simp at this; omega
  have hv : l[i]? = some v.node := by
   have : (l.drop i)[0]? = some v.node := by rw [<- hvs]; rfl
   rw [List.getElem?_drop] at this; simpa using this
  have zWc : vs.map NV.node = l.drop (i + 1) := by
   have : (l.drop i).drop 1 = vs.map NV.node := by rw [<- hvs]; rfl
   rw [List.drop_drop] at this; exact this.symm
  have hst := zEe st
  rw [dM (by omega), zEd hn hl hil hv (hok v (by simp)) (hw _ (List.mem_of_getElem? hv)) (by omega) hsz he]
  simp only [mQ]
  cases hs : gN l.length st v with
  | none => rfl
  | some st2 =>
   simp only
   exact ih (i + 1) st2 (m - 1) zWc (fun v hv => hok v (by simp [hv])) (by omega) (by rw [zEf hs]; omega) (by rw [Dr hs, he, Nl hv]) (by simp only [List.length_cons] at hm; omega)
theorem zQo (hn : 5 <= n) (hl : l.length < 1000000) (hw : ∀ nd ∈ l, Eo nd) {j : Nat} {x : Nd} (hj : l[j]? = some x) (hx : ∀ v : NV, x = v.node -> v.ok = false) : ∀ (k i : Nat) (st : List Pt) (m : Nat), i + k = j -> szA st = i -> encR st = l.take i -> k < m ->
  fix (eZ n) m (l, l, (l.length : Int), (i : Int), eG st, ()) = some false := by
 have hjl : j < l.length := (List.getElem?_eq_some_iff.1 hj).1
 intro k
 induction k with
 | zero =>
  intro i st m hi hsz he hm
  have hi : i = j := by omega
  subst hi
  rw [dM hm, eZ]
  simp only
  have hget : ∀ d, aQ d l (i : Int) = x := by
   intro d
   rw [jC hjl]
   rw [List.getElem?_eq_getElem hjl] at hj
   exact Option.some.inj hj
  rw [aD (by simp; omega), aC (iN hjl), hget]
  have hone : oH n x = some false := by
   rcases zDy (n := n) (hw x (List.mem_of_getElem? hj)) with ⟨_, v, h1, h2⟩ | ⟨h, _⟩
   ·rw [hx v h1] at h2; exact absurd h2 (by simp)
   ·exact h
  rw [hone]
  have hp : ∃ p, gD n x = some p := by
   unfold gD
   simp only
   cases (x.1 == 4) <;> cases (x.1 == 5) <;> cases (x.1 == 6) <;> cases (x.1 == 7) <;> exact ⟨_, rfl⟩
  obtain ⟨p, hp⟩ := hp
  rw [hp]; rfl
 | succ k ih =>
  intro i st m hi hsz he hm
  have hil : i < l.length := by omega
  have hli : l[i]? = some l[i] := List.getElem?_eq_getElem hil
  have hst := zEe st
  rcases zDy (n := n) (hw _ (List.mem_of_getElem? hli)) with ⟨_, v, h1, h2⟩ | ⟨h, _⟩
  ·rw [h1] at hli
   rw [dM (by omega), zEd hn hl hil hli h2 (hw _ (List.mem_of_getElem? hli)) (by omega) hsz he]
   cases hs : gN l.length st v with
   | none => rfl
   | some st2 =>
    simp only
    exact ih (i + 1) st2 (m - 1) (by omega) (by rw [zEf hs]; omega) (by rw [Dr hs, he, Nl hli]) (by omega)
  ·rw [dM (by omega), eZ]
   simp only
   have hget : ∀ d, aQ d l (i : Int) = l[i] := fun d => jC hil
   rw [aD (by simp; omega), aC (iN hil), hget, h]
   have hp : ∃ p, gD n l[i] = some p := by
    unfold gD
    simp only
    cases (l[i].1 == 4) <;> cases (l[i].1 == 5) <;> cases (l[i].1 == 6) <;> cases (l[i].1 == 7) <;> exact ⟨_, rfl⟩
   obtain ⟨p, hp⟩ := hp
   rw [hp]; rfl
theorem Zg {len : Nat} : ∀ (vs : List NV) (st st2 : List Pt), (∀ v ∈ vs, v.ok = true) -> (∀ t ∈ st, wN len t) -> mQ len vs st = some st2 -> encR st2 = encR st ++ vs.map NV.node ∧ ∀ t ∈ st2, wN len t
 | [], st, st2, _, hst, h => by simp only [mQ, Option.some.injEq] at h; subst h; exact ⟨by simp, hst⟩
 | v :: vs, st, st2, hv, hst, h => by
  simp only [mQ] at h
  cases hs : gN len st v with
  | none => rw [hs] at h; simp at h
  | some st3 =>
   rw [hs] at h
   have := Zg vs st3 st2 (fun v h => hv v (by simp [h])) (zOb (hv v (by simp)) hst hs) h
   exact ⟨by rw [this.1, Dr hs, List.append_assoc]; rfl, this.2⟩
theorem Il : ∀ l : List Nd, (∃ vs : List NV, vs.map NV.node = l ∧ ∀ v ∈ vs, v.ok = true) ∨ (∃ (j : Nat) (x : Nd), l[j]? = some x ∧ ∀ v : NV, x = v.node -> v.ok = false)
 | [] => Or.inl ⟨[], rfl, by simp⟩
 | x :: l => by
  by_cases hx : ∃ v : NV, x = v.node ∧ v.ok = true
  ·obtain ⟨v, h1, h2⟩ := hx
   rcases Il l with ⟨vs, h3, h4⟩ | ⟨j, y, h3, h4⟩
   ·exact Or.inl ⟨v :: vs, by rw [List.map_cons, h3, h1], by intro u hu; rcases List.mem_cons.1 hu with rfl | hu; exact h2; exact h4 u hu⟩
   ·exact Or.inr ⟨j + 1, y, by simpa using h3, h4⟩
  ·exact Or.inr ⟨0, x, rfl, fun v hv => by
    cases h : v.ok
    ·rfl
    ·exact absurd ⟨v, hv, h⟩ hx⟩
theorem zJj (hn : 5 <= n) (hnl : l.length < n) (hl : l.length < 1000000) (hw : ∀ nd ∈ l, Eo nd) :
  (rX n l = some true ∧ ∃ t, l = t.enc 0 ∧ wN l.length t) ∨ (rX n l = some false ∧ ∀ t, l = t.enc 0 -> ¬ wN l.length t) := by
 unfold rX
 simp only
 have hcomp : ∀ t, l = t.enc 0 -> wN l.length t -> fix (eZ n) n (l, l, (l.length : Int), 0, [], ()) = some true := by
  intro t ht hk
  have hm : (t.nvs 0).map NV.node = l.drop 0 := by rw [sO, ht]; rfl
  have hvl : (t.nvs 0).length = l.length := by have := congrArg List.length hm; simpa using this
  have := zGq hn hl hw (t.nvs 0) 0 [] n hm (yX t 0 hk.1) (by omega) rfl (by rfl) (by omega)
  have hf := qD l.length t [] hk.2.1 hk.2.2
  rw [show szA [] = 0 from rfl] at hf
  rw [hf] at this
  exact this
 rcases Il l with ⟨vs, h1, h2⟩ | ⟨j, x, h1, h2⟩
 ·have hvl : vs.length = l.length := by have := congrArg List.length h1; simpa using this
  have hN := zGq hn hl hw vs 0 [] n (by rw [h1]; rfl) h2 (by omega) rfl (by rfl) (by omega)
  rw [show ((0 : Nat) : Int) = 0 from rfl, show eG [] = [] from rfl] at hN
  cases hf : mQ l.length vs [] with
  | none =>
   rw [hf] at hN
   refine Or.inr ⟨hN, fun t ht hk => ?_⟩
   have := hcomp t ht hk
   rw [hN] at this; simp at this
  | some st2 =>
   rw [hf] at hN
   obtain ⟨ho1, ho2⟩ := Zg vs [] st2 h2 (by simp) hf
   by_cases h1l : st2.length = 1
   ·match st2, h1l with
    | [t], _ =>
     refine Or.inl ⟨hN, t, ?_, ho2 t (by simp)⟩
     simp only [encR, szA, List.nil_append, h1] at ho1
     exact ho1.symm
   ·simp only [decide_eq_false h1l] at hN
    refine Or.inr ⟨hN, fun t ht hk => ?_⟩
    have := hcomp t ht hk
    rw [hN] at this; simp at this
 ·have hjl : j < l.length := (List.getElem?_eq_some_iff.1 h1).1
  have hB := zQo hn hl hw h1 h2 j 0 [] n (by omega) rfl rfl (by omega)
  refine Or.inr ⟨hB, fun t ht hk => ?_⟩
  have := hcomp t ht hk
  rw [show ((0 : Nat) : Int) = 0 from rfl, show eG [] = [] from rfl] at hB
  rw [hB] at this; simp at this
end
abbrev W4 : Type := Nat × Bool × List Bool × Bool
def aK : Pt -> W4 -> W4
 | .cat a b, w => aK b (aK a w)
 | .alt a b, w => aK b (aK a w)
 | .times a _ _, w => aK a w
 | .group a m, w => ((aK a (w.1 + 1, w.2.1 && decide (m = w.1 + 1), w.2.2.1, w.2.2.2)).1, (aK a (w.1 + 1, w.2.1 && decide (m = w.1 + 1), w.2.2.1, w.2.2.2)).2.1, (aK a (w.1 + 1, w.2.1 && decide (m = w.1 + 1), w.2.2.1, w.2.2.2)).2.2.1.set m true, (aK a (w.1 + 1, w.2.1 && decide (m = w.1 + 1), w.2.2.1, w.2.2.2)).2.2.2)
 | .ref m, w => (w.1, w.2.1 && w.2.2.1.getD m false, w.2.2.1, true)
 | _, w => w
theorem kK : ∀ (t : Pt) (w : W4), (aK t w).2.2.1.length = w.2.2.1.length
 | .cat a b, w => by simp only [aK]; rw [kK b, kK a]
 | .alt a b, w => by simp only [aK]; rw [kK b, kK a]
 | .times a _ _, w => by simp only [aK]; rw [kK a]
 | .group a m, w => by simp only [aK, List.length_set]; rw [kK a]
 | .ref m, w => rfl
 | .empty, w | .bol, w | .eol, w | .bytes _, w => rfl
theorem uE : ∀ (t : Pt) (w : W4), (aK t w).1 <= w.1 + t.sz
 | .cat a b, w => by simp only [aK, Pt.sz]; have := uE b (aK a w); have := uE a w; omega
 | .alt a b, w => by simp only [aK, Pt.sz]; have := uE b (aK a w); have := uE a w; omega
 | .times a _ _, w => by simp only [aK, Pt.sz]; have := uE a w; omega
 | .group a m, w => by simp only [aK, Pt.sz]; have := uE a (w.1 + 1, w.2.1 && decide (m = w.1 + 1), w.2.2.1, w.2.2.2); simp only at this; omega
 | .ref m, w => by simp only [aK]; omega
 | .empty, w | .bol, w | .eol, w | .bytes _, w => by simp only [aK]; omega
theorem mH : ∀ (t : Pt) (g : Nat) (i c : Bool) (e : List Bool) (r : Bool), aK t (g, i && c, e, r) = ((aK t (g, i, e, r)).1, (aK t (g, i, e, r)).2.1 && c, (aK t (g, i, e, r)).2.2.1, (aK t (g, i, e, r)).2.2.2)
 | .cat a b, g, i, c, e, r => by
  simp only [aK]
  rw [mH a]
  rw [mH b (aK a (g, i, e, r)).1 (aK a (g, i, e, r)).2.1]
 | .alt a b, g, i, c, e, r => by
  simp only [aK]
  rw [mH a]
  rw [mH b (aK a (g, i, e, r)).1 (aK a (g, i, e, r)).2.1]
 | .times a _ _, g, i, c, e, r => by simp only [aK]; rw [mH a]
 | .group a m, g, i, c, e, r => by
  simp only [aK]
  have : (i && c && decide (m = g + 1)) = (i && decide (m = g + 1) && c) := by cases i <;> cases c <;> cases decide (m = g + 1) <;> rfl
  rw [this, mH a]
 | .ref m, g, i, c, e, r => by
  simp only [aK]
  cases i <;> cases c <;> cases e.getD m false <;> rfl
 | .empty, _, _, _, _, _ | .bol, _, _, _, _, _ | .eol, _, _, _, _, _ | .bytes _, _, _, _, _, _ => rfl
def W4.out (l : List Nd) (w : W4) : Option (List Nd × Int × Bool × List Bool × Bool × Unit) := some (l, (w.1 : Int), w.2.1, w.2.2.1, w.2.2.2, ())
theorem Jf {l : List Nd} (hl : l.length < 1000000) : ∀ (t : Pt) (o m : Nat) (w : W4), At l o t -> bY t = true -> t.sz <= m -> w.1 + t.sz < 1000000 -> w.2.2.1.length = 10 ->
  kH m (t.top o, l, (w.1 : Int), w.2.1, w.2.2.1, w.2.2.2, ()) = W4.out l (aK t w) := by
 intro t
 have start : ∀ {t : Pt} {o m : Nat} {x : List Nd × Int × Bool × List Bool × Bool × Unit}, At l o t -> kH (m + 1) (t.top o, x) = cB m (kH m) (t.top o, x) := fun _ => rfl
 induction t with
 | empty =>
  intro o m w h hf hm hg he
  obtain ⟨m, rfl⟩ : ∃ k, m = k + 1 := ⟨m - 1, by simp only [Pt.sz] at hm; omega⟩
  rw [start h]; unfold cB; simp only
  rw [aC h.top.1, h.top.2]; rfl
 | bytes p =>
  intro o m w h hf hm hg he
  obtain ⟨m, rfl⟩ : ∃ k, m = k + 1 := ⟨m - 1, by simp only [Pt.sz] at hm; omega⟩
  rw [start h]; unfold cB; simp only
  rw [aC h.top.1, h.top.2]; rfl
 | bol =>
  intro o m w h hf hm hg he
  obtain ⟨m, rfl⟩ : ∃ k, m = k + 1 := ⟨m - 1, by simp only [Pt.sz] at hm; omega⟩
  rw [start h]; unfold cB; simp only
  rw [aC h.top.1, h.top.2]; rfl
 | eol =>
  intro o m w h hf hm hg he
  obtain ⟨m, rfl⟩ : ∃ k, m = k + 1 := ⟨m - 1, by simp only [Pt.sz] at hm; omega⟩
  rw [start h]; unfold cB; simp only
  rw [aC h.top.1, h.top.2]; rfl
 | ref k =>
  intro o m w h hf hm hg he
  obtain ⟨m, rfl⟩ : ∃ k, m = k + 1 := ⟨m - 1, by simp only [Pt.sz] at hm; omega⟩
  simp only [bY, Bool.and_eq_true, decide_eq_true_eq] at hf
  rw [start h]; unfold cB; simp only
  rw [aC h.top.1, h.top.2]
  simp only [Pt.nv, NV.node]
  rw [aA (by rfl), aA (by rfl), aA (by rfl), aA (by rfl), aD (by rfl), aC (iN (i := k) (n := 10) (by omega)), aC (by exact decide_eq_true (show k < 10 by omega))]
  simp only [aK, W4.out, Int.toNat_natCast]
  cases w.2.1 <;> rfl
 | cat a b iha ihb =>
  intro o m w h hf hm hg he
  obtain ⟨m, rfl⟩ : ∃ k, m = k + 1 := ⟨m - 1, by simp only [Pt.sz] at hm; omega⟩
  simp only [bY, Bool.and_eq_true] at hf
  simp only [Pt.sz] at hm hg
  rw [start h]; unfold cB; simp only
  rw [aC h.top.1, h.top.2]
  simp only [Pt.nv, NV.node]
  have hga := uE a w
  rw [aD (by rfl), aD (by rfl), iha o m w h.Nk.1 hf.1 (by omega) (by omega) he]
  simp only [W4.out, aI]
  rw [ihb (o + a.sz) m (aK a w) h.Nk.2 hf.2 (by omega) (by omega) (by rw [kK]; exact he)]
  rfl
 | alt a b iha ihb =>
  intro o m w h hf hm hg he
  obtain ⟨m, rfl⟩ : ∃ k, m = k + 1 := ⟨m - 1, by simp only [Pt.sz] at hm; omega⟩
  simp only [bY, Bool.and_eq_true] at hf
  simp only [Pt.sz] at hm hg
  rw [start h]; unfold cB; simp only
  rw [aC h.top.1, h.top.2]
  simp only [Pt.nv, NV.node]
  have hga := uE a w
  rw [aA (by rfl), aD (by rfl), iha o m w h.alt1.1 hf.1 (by omega) (by omega) he]
  simp only [W4.out, aI]
  rw [ihb (o + a.sz) m (aK a w) h.alt1.2 hf.2 (by omega) (by omega) (by rw [kK]; exact he)]
  rfl
 | times a lo hi iha =>
  intro o m w h hf hm hg he
  obtain ⟨m, rfl⟩ : ∃ k, m = k + 1 := ⟨m - 1, by simp only [Pt.sz] at hm; omega⟩
  simp only [bY, Bool.and_eq_true] at hf
  simp only [Pt.sz] at hm hg
  rw [start h]; unfold cB; simp only
  rw [aC h.top.1, h.top.2]
  simp only [Pt.nv, NV.node]
  rw [aA (by rfl), aA (by rfl), aD (by rfl), iha o m w h.Vp hf.1 (by omega) (by omega) he]
  rfl
 | group a k iha =>
  intro o m w h hf hm hg he
  obtain ⟨m, rfl⟩ : ∃ k, m = k + 1 := ⟨m - 1, by simp only [Pt.sz] at hm; omega⟩
  simp only [bY, Bool.and_eq_true, decide_eq_true_eq] at hf
  simp only [Pt.sz] at hm hg
  rw [start h]; unfold cB; simp only
  rw [aC h.top.1, h.top.2]
  simp only [Pt.nv, NV.node]
  rw [aA (by rfl), aA (by rfl), aA (by rfl), aD (by rfl), bG (by omega) (by omega), show (w.1 : Int) + 1 = ((w.1 + 1 : Nat) : Int) from rfl]
  have hI := iha o m (w.1 + 1, w.2.1 && decide (k = w.1 + 1), w.2.2.1, w.2.2.2) h.Vq hf.1 (by omega) (by simp only; omega) he
  simp only at hI
  have he2 : ((k : Int) == ((w.1 + 1 : Nat) : Int)) = decide (k = w.1 + 1) := by rw [Bool.eq_iff_iff, beq_iff_eq, decide_eq_true_eq]; omega
  have hlen := kK a (w.1 + 1, w.2.1 && decide (k = w.1 + 1), w.2.2.1, w.2.2.2)
  rw [he2]
  cases hb : w.2.1 <;> rw [hb] at hI hlen
  ·simp only [Bool.false_and] at hI hlen
   rw [bC, hI]
   simp only [W4.out, aI]
   rw [aC (iN (i := k) (n := 10) (by omega)), aC (by exact decide_eq_true (show k < 10 by omega))]
   simp only [aK, hb, Bool.false_and, Int.toNat_natCast]
  ·simp only [Bool.true_and] at hI hlen
   rw [bX, hI]
   simp only [W4.out, aI]
   rw [aC (iN (i := k) (n := 10) (by omega)), aC (by exact decide_eq_true (show k < 10 by omega))]
   simp only [aK, hb, Bool.true_and, Int.toNat_natCast]
def w0 : W4 := (0, true, mF, false)
def sP (t : Pt) : Prop := t.sz <= 120 ∧ wN t.sz t ∧ (aK t w0).2.1 = true
theorem zJk {n : Nat} {l : List Nd} (hn : 200 <= n) (hw : ∀ nd ∈ l, Eo nd) :
  (∃ t, sP t ∧ l = t.enc 0 ∧ qI n l = some (((aK t w0).1 : Int), (aK t w0).2.2.2, true)) ∨ ((∀ t, sP t -> l ≠ t.enc 0) ∧ qI n l = some (0, false, false)) := by
 unfold qI
 simp only
 have hsz : ∀ t : Pt, l = t.enc 0 -> l.length = t.sz := fun t h => by rw [h, Pt.dR]
 by_cases h0 : l.length = 0
 ·rw [aD (by rw [h0]; rfl)]
  exact Or.inr ⟨fun t _ h => by have := hsz t h; have := t.dZ; omega, rfl⟩
 rw [aA (by simp; intro h; rw [h] at h0; simp at h0)]
 by_cases h1 : l.length > 120
 ·rw [aD (by simp; omega)]
  exact Or.inr ⟨fun t ht h => by have := hsz t h; have := ht.1; omega, rfl⟩
 rw [aA (by simp; omega)]
 rcases zJj (n := n) (l := l) (by omega) (by omega) (by omega) hw with ⟨ho, t, ht, hk⟩ | ⟨ho, hno⟩
 ·rw [ho]
  simp only [aI, Bool.not_true, bC]
  unfold yC
  simp only
  have hlt := hsz t ht
  have htp := t.dZ
  rw [bG (by omega) (by omega), show (l.length : Int) - 1 = t.top 0 by unfold Pt.top; omega]
  have hA : At l 0 t := by have := At.self t; rw [<- ht] at this; exact this
  have hN := Jf (l := l) (by omega) t 0 n w0 hA hk.1 (by omega) (by simp only [w0]; omega) rfl
  have hw0 : kH n (t.top 0, l, 0, true, [false, false, false, false, false, false, false, false, false, false], false, ()) = W4.out l (aK t w0) := hN
  rw [hw0]
  simp only [W4.out, aI]
  cases hi : (aK t w0).2.1
  ·refine Or.inr ⟨fun u hu h => ?_, rfl⟩
   have hu2 := hu.2.2
   have hlu := hsz u h
   have hB : At l 0 u := by have := At.self u; rw [<- h] at this; exact this
   have htop : t.top 0 = u.top 0 := by unfold Pt.top; omega
   have hM := Jf (l := l) (by omega) u 0 n w0 hB hu.2.1.1 (by omega) (by simp only [w0]; omega) rfl
   rw [<- htop, hN] at hM
   simp only [W4.out, Option.some.injEq, Prod.mk.injEq] at hM
   have := hM.2.2.1
   rw [hi, hu2] at this; simp at this
  ·rw [hlt] at hk
   exact Or.inl ⟨t, ⟨by omega, hk, hi⟩, ht, rfl⟩
 ·rw [ho]
  simp only [aI, Bool.not_false, bX]
  exact Or.inr ⟨fun t ht h => by have := hno t h; rw [hsz t h] at this; exact this ht.2.1, by first | rfl | trivial⟩
theorem zLm {n : Nat} {l : List Nd} (hn : 200 <= n) (hw : ∀ nd ∈ l, Eo nd) :
  (∃ t, sP t ∧ l = t.enc 0 ∧ vX n l = some true) ∨ ((∀ t, sP t -> l ≠ t.enc 0) ∧ vX n l = some false) := by
 unfold vX
 simp only
 rcases zJk hn hw with ⟨t, h1, h2, h3⟩ | ⟨h1, h2⟩
 ·exact Or.inl ⟨t, h1, h2, by rw [h3]; rfl⟩
 ·exact Or.inr ⟨h1, by rw [h2]; rfl⟩
end Go.Dec
namespace Go.Dec
def Xw (t : Pt) (b : Nat) (en : List Bool) (b' : Nat) (en' : List Bool) : Prop := ∀ i rf, ∃ rf', aK t (b, i, en, rf) = (b', i, en', rf')
def zEg (ts : List Pt) (w : W4) : W4 := ts.foldl (fun w t => aK t w) w
def zWd (ts : List Pt) (b : Nat) (en : List Bool) (b' : Nat) (en' : List Bool) : Prop := ∀ i rf, ∃ rf', zEg ts (b, i, en, rf) = (b', i, en', rf')
theorem zEh {p : Nat -> Bool} {i : Nat} (hi : i < 256) (h : p i = true) : iR p = false := by
 cases he : iR p
 ·rfl
 ·have := Cg he hi
  rw [h] at this; simp at this
theorem zQp {r : List UInt8} {p : Nat -> Bool} {k : Nat} (h : Ck r = some (p, k)) : iR p = false := by
 unfold Ck at h
 cases h1 : [91].isPrefixOf r <;> rw [h1] at h <;> simp only [cond_true, cond_false] at h
 ·simp at h
 ·cases h3 : vG (r.length + 1) true (fun _ => false) (r.drop (bif [94].isPrefixOf (r.drop 1) then 2 else 1)) with
  | none => rw [h3] at h; simp at h
  | some x =>
   obtain ⟨q, m⟩ := x
   rw [h3] at h
   simp only at h
   cases h4 : iR (bif [94].isPrefixOf (r.drop 1) then (fun j => !q j) else q) <;> rw [h4] at h <;> simp at h
   rw [<- h.1]; simpa using h4
theorem Om (c : UInt8) : iR (gV c) = false := zEh c.toNat_lt (by simp [gV])
def Gj (t : Pt) : Prop := bY t = true ∧ cO t = true ∧ fB t = true ∧ t.kind ≠ 4 ∧ t.kind ≠ 5
def Cv (t : Pt) : Prop := bY t = true ∧ cO t = true ∧ fB t = true ∧ (t.kind = 1 ∨ t.kind = 7 ∨ t.kind = 8)
def zGr (t : Pt) : Prop := bY t = true ∧ cO t = true ∧ fB t = true ∧ t.kind ≠ 5
theorem Cv.item {t : Pt} (h : Cv t) : Gj t := ⟨h.1, h.2.1, h.2.2.1, by rcases h.2.2.2 with h | h | h <;> omega, by rcases h.2.2.2 with h | h | h <;> omega⟩
def zOe (row : List UInt8 -> Nat -> List Bool -> Res (Option Pt)) : Prop := ∀ r b en t r' b' en', b <= 9 -> en.length = 10 -> row r b en = .ok (some t) r' b' en' -> zGr t ∧ Xw t b en b' en' ∧ b' <= 9 ∧ en'.length = 10
theorem zGs {p : Nat -> Bool} (h : iR p = false) (b : Nat) (en : List Bool) : Cv (.bytes p) ∧ Xw (.bytes p) b en b en := ⟨⟨by simp [bY, h], rfl, rfl, Or.inl rfl⟩, fun i rf => ⟨rf, rfl⟩⟩
theorem zTg {row : List UInt8 -> Nat -> List Bool -> Res (Option Pt)} {first : Bool} {r : List UInt8} {b : Nat} {en : List Bool} {t : Pt} {r' : List UInt8} {b' : Nat} {en' : List Bool}
  (hrow : zOe row) (hb : b <= 9) (he : en.length = 10) (h : mP row first r b en = .ok t r' b' en') : Cv t ∧ Xw t b en b' en' ∧ b' <= 9 ∧ en'.length = 10 := by
 have hone : ∀ {p : Nat -> Bool} {x : List UInt8}, iR p = false -> Res.ok (Pt.bytes p) x b en = .ok t r' b' en' -> Cv t ∧ Xw t b en b' en' ∧ b' <= 9 ∧ en'.length = 10 := by
  intro p x hp h
  simp only [Res.ok.injEq] at h
  obtain ⟨rfl, rfl, rfl, rfl⟩ := h
  exact ⟨(zGs hp b en).1, (zGs hp b en).2, hb, he⟩
 unfold mP at h
 cases r with
 | nil => simp at h
 | cons c r1 =>
  simp only at h
  cases h1 : c == 46 <;> rw [h1] at h <;> simp only [cond_true, cond_false] at h
  case true => exact hone (zEh (i := 0) (by omega) rfl) h
  cases h2 : c == 91 <;> rw [h2] at h <;> simp only [cond_true, cond_false] at h
  case true =>
   cases h3 : Ck (c :: r1) with
   | none => rw [h3] at h; simp at h
   | some x => rw [h3] at h; exact hone (zQp h3) h
  cases h3 : c == 92 <;> rw [h3] at h <;> simp only [cond_true, cond_false] at h
  case false => exact hone (Om c) h
  cases r1 with
  | nil => simp at h
  | cons d r2 =>
   simp only at h
   cases h4 : d == 40 <;> rw [h4] at h <;> simp only [cond_true, cond_false] at h
   case true =>
    cases h5 : b == 9 <;> rw [h5] at h <;> simp only [cond_true, cond_false] at h
    case true => simp at h
    have hb9 : b ≠ 9 := by simpa using h5
    cases ho : row r2 (b + 1) en with
    | er e k => rw [ho] at h; simp at h
    | ok t3 r3 b3 en3 =>
     rw [ho] at h
     cases t3 with
     | none => simp at h
     | some t3 =>
      simp only at h
      obtain ⟨g1, g2, g3, g4⟩ := hrow r2 (b + 1) en t3 r3 b3 en3 (by omega) he ho
      cases h6 : [92, 41].isPrefixOf r3 <;> rw [h6] at h <;> simp only [cond_true, cond_false, Res.ok.injEq] at h
      ·simp at h
      ·obtain ⟨rfl, rfl, rfl, rfl⟩ := h
       refine ⟨⟨?_, ?_, ?_, Or.inr (Or.inl rfl)⟩, ?_, g3, ?_⟩
       ·simp [bY, g1.1]; omega
       ·simp [cO, g1.2.1]
       ·simp [fB, g1.2.2.1]
       ·intro i rf
        obtain ⟨rf', hrf⟩ := g2 i rf
        exact ⟨rf', by simp only [aK, decide_true, Bool.and_true]; rw [hrf]⟩
       ·rw [List.length_set]; exact g4
   cases h5 : decide (49 <= d.toNat) && decide (d.toNat <= 57) <;> rw [h5] at h <;> simp only [cond_true, cond_false] at h
   case true =>
    simp only [Bool.and_eq_true, decide_eq_true_eq] at h5
    cases h6 : en.getD (d.toNat - 48) false <;> rw [h6] at h <;> simp only [cond_true, cond_false, Res.ok.injEq] at h
    ·simp at h
    ·obtain ⟨rfl, rfl, rfl, rfl⟩ := h
     refine ⟨⟨by simp [bY]; omega, rfl, rfl, Or.inr (Or.inr rfl)⟩, fun i rf => ⟨true, ?_⟩, hb, he⟩
     simp only [aK, h6, Bool.and_true]
   cases h6 : d == 110 <;> rw [h6] at h <;> simp only [cond_true, cond_false] at h
   case true => exact hone (Om 10) h
   cases h7 : qB.contains d <;> rw [h7] at h <;> simp only [cond_true, cond_false] at h
   case true => exact hone (Om d) h
   cases h8 : d == 123 && first <;> rw [h8] at h <;> simp at h
theorem zPg {t : Pt} {lo hi : Int} {r r' : List UInt8} {b b' : Nat} {en en' : List Bool} {t' : Pt} (ht : Cv t) (hlo : fU lo hi = true) (h : xM t lo hi r b en = .ok t' r' b' en') : t' = .times t lo hi ∧ Gj t' ∧ b' = b ∧ en' = en := by
 unfold xM at h
 cases hc : [42].isPrefixOf r || [92, 123].isPrefixOf r <;> rw [hc] at h <;> simp at h
 obtain ⟨rfl, rfl, rfl, rfl⟩ := h
 refine ⟨rfl, ⟨by simp only [bY, ht.1, hlo]; rfl, ?_, by simp [fB, ht.2.2.1], by simp [Pt.kind], by simp [Pt.kind]⟩, rfl, rfl⟩
 simp only [cO, ht.2.1, Bool.true_and, Bool.or_eq_true, decide_eq_true_eq]
 rcases ht.2.2.2 with h | h | h
 ·exact Or.inl (Or.inl h)
 ·exact Or.inl (Or.inr h)
 ·exact Or.inr h
theorem zJl {r : List UInt8} {lo hi : Int} {r2 : List UInt8} (h : Ni r = some (lo, hi, r2)) : fU lo hi = true := by
 unfold Ni at h
 cases hlo : mZ r with
 | mk l1 r1 =>
  rw [hlo] at h
  cases l1 with
  | none => simp at h
  | some l1 =>
   simp only at h
   cases hc : [44].isPrefixOf r1 <;> rw [hc] at h <;> simp only [cond_true, cond_false] at h
   ·cases hb : [92, 125].isPrefixOf r1 && decide (l1 <= 255) && decide (1 <= l1) <;> rw [hb] at h <;> simp at h
    simp only [Bool.and_eq_true, decide_eq_true_eq] at hb
    obtain ⟨rfl, rfl, _⟩ := h
    simp [fU]; omega
   ·cases hhi : mZ (r1.drop 1) with
    | mk h1 r3 =>
     rw [hhi] at h
     cases h1 with
     | none =>
      simp only at h
      cases hb : [92, 125].isPrefixOf r3 && decide (l1 <= 255) <;> rw [hb] at h <;> simp at h
      simp only [Bool.and_eq_true, decide_eq_true_eq] at hb
      obtain ⟨rfl, rfl, _⟩ := h
      simp [fU]; omega
     | some h1 =>
      simp only at h
      cases hb : [92, 125].isPrefixOf r3 && decide (l1 <= 255) && decide (h1 <= 255) && decide (l1 <= h1) && decide (1 <= h1) <;> rw [hb] at h <;> simp at h
      simp only [Bool.and_eq_true, decide_eq_true_eq] at hb
      obtain ⟨rfl, rfl, _⟩ := h
      simp [fU]; omega
theorem zQq {t : Pt} {r : List UInt8} {b : Nat} {en : List Bool} {t' : Pt} {r' : List UInt8} {b' : Nat} {en' : List Bool} (ht : Cv t) (h : pI t r b en = .ok t' r' b' en') :
  (t' = t ∨ ∃ lo hi, t' = .times t lo hi) ∧ Gj t' ∧ b' = b ∧ en' = en := by
 rw [zDx] at h
 cases h1 : [42].isPrefixOf r <;> rw [h1] at h <;> simp only [cond_true, cond_false] at h
 case true =>
  have := zPg ht (by decide) h
  exact ⟨Or.inr ⟨_, _, this.1⟩, this.2⟩
 cases h2 : [92, 123].isPrefixOf r <;> rw [h2] at h <;> simp only [cond_true, cond_false] at h
 case false =>
  simp only [Res.ok.injEq] at h
  obtain ⟨rfl, rfl, rfl, rfl⟩ := h
  exact ⟨Or.inl rfl, ht.item, rfl, rfl⟩
 cases ho : Ni (r.drop 2) with
 | none => rw [ho] at h; simp at h
 | some x =>
  obtain ⟨lo, hi, r2⟩ := x
  rw [ho] at h
  have := zPg ht (zJl ho) h
  exact ⟨Or.inr ⟨_, _, this.1⟩, this.2⟩
theorem zJm {t t' : Pt} {b b' : Nat} {en en' : List Bool} (ht : t' = t ∨ ∃ lo hi, t' = .times t lo hi) (h : Xw t b en b' en') : Xw t' b en b' en' := by
 rcases ht with rfl | ⟨lo, hi, rfl⟩
 ·exact h
 ·exact fun i rf => h i rf
theorem zQr {row : List UInt8 -> Nat -> List Bool -> Res (Option Pt)} (hrow : zOe row) : ∀ (f : Nat) (first : Bool) (r : List UInt8) (b : Nat) (en : List Bool) (acc ts : List Pt) (r' : List UInt8) (b' : Nat) (en' : List Bool), b <= 9 -> en.length = 10 -> gW row f first r b en acc = .ok ts r' b' en' ->
  ∃ new, ts = acc ++ new ∧ (∀ t ∈ new, Gj t) ∧ zWd new b en b' en' ∧ b' <= 9 ∧ en'.length = 10 := by
 intro f
 induction f with
 | zero => intro first r b en acc ts r' b' en' _ _ h; simp [gW] at h
 | succ f ih =>
  intro first r b en acc ts r' b' en' hb he h
  unfold gW at h
  cases hc : iZ r <;> rw [hc] at h <;> simp only [cond_true, cond_false, Res.ok.injEq] at h
  case true =>
   obtain ⟨rfl, rfl, rfl, rfl⟩ := h
   exact ⟨[], by simp, by simp, fun i rf => ⟨rf, rfl⟩, hb, he⟩
  cases hd : [36].isPrefixOf r && iZ (r.drop 1) <;> rw [hd] at h <;> simp only [cond_true, cond_false, Res.ok.injEq] at h
  case true =>
   obtain ⟨rfl, rfl, rfl, rfl⟩ := h
   exact ⟨[.eol], rfl, by intro t ht; simp only [List.mem_singleton] at ht; subst ht; exact ⟨rfl, rfl, rfl, by simp [Pt.kind], by simp [Pt.kind]⟩, fun i rf => ⟨rf, rfl⟩, hb, he⟩
  cases ho : mP row first r b en with
  | er e k => rw [ho] at h; simp at h
  | ok t r1 b1 en1 =>
   rw [ho] at h
   simp only at h
   obtain ⟨a1, a2, a3, a4⟩ := zTg hrow hb he ho
   cases ho2 : pI t r1 b1 en1 with
   | er e k => rw [ho2] at h; simp at h
   | ok t2 r2 b2 en2 =>
    rw [ho2] at h
    simp only at h
    obtain ⟨c1, c2, rfl, rfl⟩ := zQq a1 ho2
    obtain ⟨new, d1, d2, d3, d4, d5⟩ := ih _ _ _ _ _ _ _ _ _ a3 a4 h
    refine ⟨t2 :: new, by rw [d1]; simp, ?_, ?_, d4, d5⟩
    ·intro u hu
     rcases List.mem_cons.1 hu with rfl | hu
     ·exact c2
     ·exact d2 u hu
    ·intro i rf
     obtain ⟨rf1, h1⟩ := zJm c1 a2 i rf
     obtain ⟨rf2, h2⟩ := d3 i rf1
     exact ⟨rf2, by simp only [zEg, List.foldl_cons] at h2 ⊢; rw [h1]; exact h2⟩
theorem zEi : ∀ (ts : List Pt) (t : Pt) (w : W4), kJ ts = some t -> aK t w = zEg ts w
 | [], t, w, h => by simp [kJ] at h
 | u :: ts, t, w, h => by
  unfold kJ at h
  cases hc : kJ ts with
  | none =>
   rw [hc] at h
   simp only [Option.some.injEq] at h
   subst h
   cases ts with
   | nil => rfl
   | cons v ts =>
    unfold kJ at hc
    cases h2 : kJ ts <;> rw [h2] at hc <;> simp at hc
  | some v =>
   rw [hc] at h
   simp only [Option.some.injEq] at h
   subst h
   simp only [aK, zEg, List.foldl_cons]
   exact zEi ts v (aK u w) hc
theorem zGt : ∀ (ts : List Pt) (t : Pt), (∀ u ∈ ts, Gj u) -> kJ ts = some t -> zGr t
 | [], t, _, h => by simp [kJ] at h
 | u :: ts, t, hu, h => by
  unfold kJ at h
  have hk := hu u (by simp)
  cases hc : kJ ts with
  | none =>
   rw [hc] at h
   simp only [Option.some.injEq] at h
   subst h
   exact ⟨hk.1, hk.2.1, hk.2.2.1, hk.2.2.2.2⟩
  | some v =>
   rw [hc] at h
   simp only [Option.some.injEq] at h
   subst h
   have hv := zGt ts v (fun x hx => hu x (by simp [hx])) hc
   exact ⟨by simp [bY, hk.1, hv.1], by simp [cO, hk.2.1, hv.2.1, hk.2.2.2.1, hk.2.2.2.2, hv.2.2.2], by simp [fB, hk.2.2.1, hv.2.2.1], by simp [Pt.kind]⟩
theorem zUi : ∀ f : Nat, zOe (fA f) := by
 intro f
 induction f with
 | zero => intro r b en t r' b' en' _ _ h; simp [fA] at h
 | succ f ih =>
  intro r b en t r' b' en' hb he h
  unfold fA at h
  simp only at h
  cases ho : gW (fA f) ((bif [94].isPrefixOf r then r.drop 1 else r).length + 1) true (bif [94].isPrefixOf r then r.drop 1 else r) b en (bif [94].isPrefixOf r then [Pt.bol] else []) with
  | er e k => rw [ho] at h; simp at h
  | ok ts r2 b2 en2 =>
   rw [ho] at h
   simp only [Res.ok.injEq] at h
   obtain ⟨new, d1, d2, d3, d4, d5⟩ := zQr ih _ _ _ _ _ _ _ _ _ _ hb he ho
   obtain ⟨h1, rfl, rfl, rfl⟩ := h
   have hok : ∀ u ∈ ts, Gj u := by
    rw [d1]
    intro u hu
    rcases List.mem_append.1 hu with hu | hu
    ·cases h94 : [94].isPrefixOf r <;> rw [h94] at hu <;> simp at hu
     subst hu
     exact ⟨rfl, rfl, rfl, by simp [Pt.kind], by simp [Pt.kind]⟩
    ·exact d2 u hu
   refine ⟨zGt ts t hok h1, ?_, d4, d5⟩
   intro i rf
   obtain ⟨rf', hrf⟩ := d3 i rf
   refine ⟨rf', ?_⟩
   rw [zEi ts t _ h1, d1]
   simp only [zEg, List.foldl_append] at hrf ⊢
   cases h94 : [94].isPrefixOf r
   ·exact hrf
   ·exact hrf
theorem zFl {s : List UInt8} {t : Pt} (h : Cm s = .inl t) : sP t := by
 cases s with
 | nil => simp only [Cm, Sum.inl.injEq] at h; subst h; exact ⟨by simp [Pt.sz], ⟨rfl, rfl, fun h => by simp [Pt.sz] at h⟩, rfl⟩
 | cons c s0 =>
  have hps : Cm (c :: s0) = match fA 11 (c :: s0) 0 mF with
   | .er e k => .inr (e, (c :: s0).length - k)
   | .ok t r _ _ =>
    match r with
    | [] => match t with
     | none => .inr (41, (c :: s0).length)
     | some t => bif decide (t.sz > 120) then .inr (2, 0) else .inl t
    | _ => .inr (41, (c :: s0).length - r.length) := rfl
  rw [hps] at h
  cases ho : fA 11 (c :: s0) 0 mF with
  | er e k => rw [ho] at h; simp at h
  | ok t2 r b2 en2 =>
   rw [ho] at h
   simp only at h
   cases r with
   | cons c2 r2 => simp at h
   | nil =>
    cases t2 with
    | none => simp at h
    | some t2 =>
     simp only at h
     obtain ⟨g1, g2, _⟩ := zUi 11 _ 0 mF t2 _ _ _ (by omega) rfl ho
     cases zDw : decide (t2.sz > 120) <;> rw [zDw] at h <;> simp only [cond_true, cond_false, Sum.inl.injEq, reduceCtorEq] at h
     subst h
     simp only [gt_iff_lt, decide_eq_false_iff_not] at zDw
     obtain ⟨rf', hrf⟩ := g2 true false
     exact ⟨by omega, ⟨g1.1, g1.2.1, fun _ => g1.2.2.1⟩, by simp only [w0]; rw [hrf]⟩
theorem zLn (t : Pt) (o : Nat) : ∀ nd ∈ t.enc o, Eo nd := by
 intro nd h
 rw [<- sO] at h
 obtain ⟨v, _, rfl⟩ := List.mem_map.1 h
 cases v with
 | bytes p => exact ⟨p, rfl⟩
 | _ => exact ⟨fun _ => false, nA.symm⟩
theorem zQs {n : Nat} {t : Pt} (hn : 200 <= n) (h : sP t) : vX n (t.enc 0) = some true := by
 rcases zLm (n := n) (l := t.enc 0) hn (zLn t 0) with ⟨_, _, _, h3⟩ | ⟨h1, _⟩
 ·exact h3
 ·exact absurd rfl (h1 t h)
end Go.Dec
