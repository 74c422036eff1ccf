/- Part of a proof over this seat: a library of my own, and what it says of this seat. No statement is proved here. -/
import Derived.Test.YthhbdkdofhhoeaaGreatDoorPartBN
namespace Go.Dec
section
variable {n : Nat} {s r : List UInt8} {b : Nat} {en : List Bool} {l : List Nd} {rw' : List UInt8 × Int × StT -> Option (StT × Int)} {row : List UInt8 -> Nat -> List Bool -> Res (Option Pt)}
end
end Go.Dec
namespace Go.Dec
def Pt.kind : Pt -> Int
 | .empty => 0 | .bytes _ => 1 | .bol => 2 | .eol => 3 | .cat _ _ => 4 | .alt _ _ => 5 | .times _ _ _ => 6 | .group _ _ => 7 | .ref _ => 8
inductive NV where
 | empty | bol | eol
 | bytes (p : Nat -> Bool)
 | cat (a b : Int) | alt (a b : Int)
 | times (a lo hi : Int)
 | group (a : Int) (m : Nat)
 | ref (m : Nat)
def NV.node : NV -> Nd
 | .empty => (0, [0, 0, 0, 0], 0, 0, 0, 0, 0, ())
 | .bytes p => (1, wd p, 0, 0, 0, 0, 0, ())
 | .bol => (2, [0, 0, 0, 0], 0, 0, 0, 0, 0, ())
 | .eol => (3, [0, 0, 0, 0], 0, 0, 0, 0, 0, ())
 | .cat a b => (4, [0, 0, 0, 0], a, b, 0, 0, 0, ())
 | .alt a b => (5, [0, 0, 0, 0], a, b, 0, 0, 0, ())
 | .times a lo hi => (6, [0, 0, 0, 0], a, 0, lo, hi, 0, ())
 | .group a m => (7, [0, 0, 0, 0], a, 0, 0, 0, (m : Int), ())
 | .ref m => (8, [0, 0, 0, 0], 0, 0, 0, 0, (m : Int), ())
def iT (lo hi : Int) : Bool := decide (0 <= lo) && decide (lo <= 255) && (decide (hi = -1) || (decide (lo <= hi) && decide (1 <= hi) && decide (hi <= 255)))
def NV.ok : NV -> Bool
 | .bytes p => !dS p
 | .times _ lo hi => iT lo hi
 | .group _ m => decide (1 <= m) && decide (m <= 9)
 | .ref m => decide (1 <= m) && decide (m <= 9)
 | _ => true
def Lv (nd : Nd) : Prop := ∃ p, nd.2.1 = wd p
theorem zTw {x y : Nd} (h : x = y) : Ty.beq aC x y = true := (@beq_iff aC rfl x y).2 h
theorem zTx {x y : Nd} (h : ¬ x = y) : Ty.beq aC x y = false := beq_false (t := aC) rfl h
def zOf (nd : Nd) (e : Option Bool) : Prop := (e = some true ∧ ∃ v : NV, nd = v.node ∧ v.ok = true) ∨ (e = some false ∧ ∀ v : NV, nd = v.node -> v.ok = false)
theorem Xg (v : NV) : 0 <= v.node.1 ∧ v.node.1 <= 8 := by cases v <;> simp [NV.node]
section
variable {n : Nat} {w : List Int} {a b lo hi m : Int} {u : Unit}
theorem plain0 : bF n (0, w, a, b, lo, hi, m, u) = some (0, [0, 0, 0, 0], 0, 0, 0, 0, 0, ()) := by simp [bF]
theorem zRq : bF n (1, w, a, b, lo, hi, m, u) = some (1, w, 0, 0, 0, 0, 0, ()) := by simp [bF]
theorem zRr : bF n (2, w, a, b, lo, hi, m, u) = some (2, [0, 0, 0, 0], 0, 0, 0, 0, 0, ()) := by simp [bF]
theorem zRs : bF n (3, w, a, b, lo, hi, m, u) = some (3, [0, 0, 0, 0], 0, 0, 0, 0, 0, ()) := by simp [bF]
theorem zRt : bF n (4, w, a, b, lo, hi, m, u) = some (4, [0, 0, 0, 0], a, b, 0, 0, 0, ()) := by simp [bF]
theorem zRu : bF n (5, w, a, b, lo, hi, m, u) = some (5, [0, 0, 0, 0], a, b, 0, 0, 0, ()) := by simp [bF]
theorem zRv : bF n (6, w, a, b, lo, hi, m, u) = some (6, [0, 0, 0, 0], a, 0, lo, hi, 0, ()) := by simp [bF]
theorem zRw : bF n (7, w, a, b, lo, hi, m, u) = some (7, [0, 0, 0, 0], a, 0, 0, 0, m, u) := by simp [bF]
theorem plain8 : bF n (8, w, a, b, lo, hi, m, u) = some (8, [0, 0, 0, 0], 0, 0, 0, 0, m, u) := by simp [bF]
end
theorem zBs {n : Nat} {nd : Nd} (hw : Lv nd) : zOf nd (nU n nd) := by
 obtain ⟨k, w, a, b, lo, hi, m, u⟩ := nd
 obtain ⟨p, hp⟩ := hw
 simp only at hp
 subst hp
 unfold nU
 simp only
 by_cases h0 : k < 0
 ·rw [aF (by simp; omega)]
  exact Or.inr ⟨rfl, fun v hv => by have := Xg v; rw [<- hv] at this; omega⟩
 rw [aB (by simp; omega)]
 by_cases h8 : k > 8
 ·rw [aF (by simp; omega)]
  exact Or.inr ⟨rfl, fun v hv => by have := Xg v; rw [<- hv] at this; omega⟩
 rw [aB (by simp; omega)]
 have hcase : k = 0 ∨ k = 1 ∨ k = 2 ∨ k = 3 ∨ k = 4 ∨ k = 5 ∨ k = 6 ∨ k = 7 ∨ k = 8 := by omega
 have hbad : ∀ {nd' : Nd} {X : Option Bool}, (∀ v : NV, (k, wd p, a, b, lo, hi, m, u) = v.node -> (k, wd p, a, b, lo, hi, m, u) = nd') -> ¬ (k, wd p, a, b, lo, hi, m, u) = nd' -> zOf (k, wd p, a, b, lo, hi, m, u) (br (!(Ty.beq aC (k, wd p, a, b, lo, hi, m, u) nd')) (some false) X) := by
  intro nd' X h1 h2
  rw [zTx h2]
  exact Or.inr ⟨rfl, fun v hv => absurd (h1 v hv) h2⟩
 have hgood : ∀ {nd' : Nd} {X : Option Bool}, (k, wd p, a, b, lo, hi, m, u) = nd' -> (br (!(Ty.beq aC (k, wd p, a, b, lo, hi, m, u) nd')) (some false) X) = X := by
  intro nd' X h
  rw [zTw h]; rfl
 have hng : ∀ {m : Int} (v : NV), 1 <= m -> ∃ m' : Nat, m = (m' : Int) := fun {m} _ h => ⟨m.toNat, by omega⟩
 rcases hcase with rfl | rfl | rfl | rfl | rfl | rfl | rfl | rfl | rfl
 ·rw [plain0, aH]
  by_cases h : ((0 : Int), wd p, a, b, lo, hi, m, u) = ((0, [0, 0, 0, 0], 0, 0, 0, 0, 0, ()) : Nd)
  ·rw [hgood h]; exact Or.inl ⟨rfl, .empty, h, rfl⟩
  ·exact hbad (fun v hv => by rw [hv]; cases v <;> simp [NV.node] at hv ⊢) h
 ·rw [zRq, aH]
  by_cases h : ((1 : Int), wd p, a, b, lo, hi, m, u) = ((1, wd p, 0, 0, 0, 0, 0, ()) : Nd)
  ·rw [hgood h]
   rw [aF (by rfl)]
   rw [qW]
   cases he : dS p
   ·exact Or.inl ⟨rfl, .bytes p, h, by simp [NV.ok, he]⟩
   ·refine Or.inr ⟨rfl, fun v hv => ?_⟩
    have e1 := congrArg (fun x : Nd => x.2.1) hv
    have e0 := congrArg (fun x : Nd => x.1) hv
    cases v <;> simp [NV.node] at e0 e1
    simp only [NV.ok]
    rw [<- qW, <- e1, qW, he]; rfl
  ·exact hbad (fun v hv => by rw [hv]; cases v <;> simp [NV.node] at hv ⊢; exact hv.1.symm) h
 ·rw [zRr, aH]
  by_cases h : ((2 : Int), wd p, a, b, lo, hi, m, u) = ((2, [0, 0, 0, 0], 0, 0, 0, 0, 0, ()) : Nd)
  ·rw [hgood h]; exact Or.inl ⟨rfl, .bol, h, rfl⟩
  ·exact hbad (fun v hv => by rw [hv]; cases v <;> simp [NV.node] at hv ⊢) h
 ·rw [zRs, aH]
  by_cases h : ((3 : Int), wd p, a, b, lo, hi, m, u) = ((3, [0, 0, 0, 0], 0, 0, 0, 0, 0, ()) : Nd)
  ·rw [hgood h]; exact Or.inl ⟨rfl, .eol, h, rfl⟩
  ·exact hbad (fun v hv => by rw [hv]; cases v <;> simp [NV.node] at hv ⊢) h
 ·rw [zRt, aH]
  by_cases h : ((4 : Int), wd p, a, b, lo, hi, m, u) = ((4, [0, 0, 0, 0], a, b, 0, 0, 0, ()) : Nd)
  ·rw [hgood h]; exact Or.inl ⟨rfl, .cat a b, h, rfl⟩
  ·exact hbad (fun v hv => by rw [hv]; cases v <;> simp [NV.node] at hv ⊢; exact ⟨hv.2.1.symm, hv.2.2.1.symm⟩) h
 ·rw [zRu, aH]
  by_cases h : ((5 : Int), wd p, a, b, lo, hi, m, u) = ((5, [0, 0, 0, 0], a, b, 0, 0, 0, ()) : Nd)
  ·rw [hgood h]; exact Or.inl ⟨rfl, .alt a b, h, rfl⟩
  ·exact hbad (fun v hv => by rw [hv]; cases v <;> simp [NV.node] at hv ⊢; exact ⟨hv.2.1.symm, hv.2.2.1.symm⟩) h
 ·rw [zRv, aH]
  by_cases h : ((6 : Int), wd p, a, b, lo, hi, m, u) = ((6, [0, 0, 0, 0], a, 0, lo, hi, 0, ()) : Nd)
  ·rw [hgood h]
   rw [aB (by rfl), aF (by rfl)]
   have e : (br (decide (lo ≥ 0)) (br (decide (lo <= 255)) (br (hi == -1) (some true) (br (decide (hi ≥ if 1 > lo then 1 else lo)) (some (decide (hi <= 255))) (some false))) (some false)) (some false)) = some (iT lo hi) := by
    unfold iT
    by_cases g1 : 0 <= lo
    ·rw [aF (by simp; omega), decide_eq_true g1]
     by_cases g2 : lo <= 255
     ·rw [aF (by simp; omega), decide_eq_true g2]
      by_cases g3 : hi = -1
      ·subst g3; rfl
      ·rw [aB (by simp; omega), decide_eq_false g3]
       by_cases g4 : lo <= hi
       ·by_cases g5 : 1 <= hi
        ·rw [aF (by simp; split <;> omega), decide_eq_true g4, decide_eq_true g5]; rfl
        ·rw [aB (by simp; split <;> omega), decide_eq_false g5, decide_eq_true g4]; rfl
       ·rw [aB (by simp; split <;> omega), decide_eq_false g4]; rfl
     ·rw [aB (by simp; omega), decide_eq_false g2, Bool.and_false, Bool.false_and]
    ·rw [aB (by simp; omega), decide_eq_false g1]; rfl
   rw [e]
   cases ht : iT lo hi
   ·refine Or.inr ⟨rfl, fun v hv => ?_⟩
    have e1 := congrArg (fun x : Nd => x.2.2.2.2.1) hv
    have e2 := congrArg (fun x : Nd => x.2.2.2.2.2.1) hv
    have e0 := congrArg (fun x : Nd => x.1) hv
    cases v <;> simp [NV.node] at e0 e1 e2
    simp only [NV.ok]
    rw [<- e1, <- e2]; exact ht
   ·exact Or.inl ⟨rfl, .times a lo hi, h, ht⟩
  ·exact hbad (fun v hv => by rw [hv]; cases v <;> simp [NV.node] at hv ⊢; exact ⟨hv.2.1.symm, hv.2.2.2.1.symm, hv.2.2.2.2.1.symm⟩) h
 ·rw [zRw, aH]
  by_cases h : ((7 : Int), wd p, a, b, lo, hi, m, u) = ((7, [0, 0, 0, 0], a, 0, 0, 0, m, u) : Nd)
  ·rw [hgood h]
   rw [aB (by rfl), aB (by rfl), aF (by rfl), aF (by rfl)]
   by_cases g1 : 1 <= m
   ·rw [aF (by simp; omega)]
    by_cases g2 : m <= 9
    ·obtain ⟨m', rfl⟩ : ∃ m' : Nat, m = (m' : Int) := ⟨m.toNat, by omega⟩
     rw [decide_eq_true g2]
     exact Or.inl ⟨rfl, .group a m', h, by simp [NV.ok]; omega⟩
    ·rw [decide_eq_false g2]
     refine Or.inr ⟨rfl, fun v hv => ?_⟩
     have e1 := congrArg (fun x : Nd => x.2.2.2.2.2.2.1) hv
     have e0 := congrArg (fun x : Nd => x.1) hv
     cases v <;> simp [NV.node] at e0 e1
     simp [NV.ok]; omega
   ·rw [aB (by simp; omega)]
    refine Or.inr ⟨rfl, fun v hv => ?_⟩
    have e1 := congrArg (fun x : Nd => x.2.2.2.2.2.2.1) hv
    have e0 := congrArg (fun x : Nd => x.1) hv
    cases v <;> simp [NV.node] at e0 e1
    simp [NV.ok]; omega
  ·exact hbad (fun v hv => by rw [hv]; cases v <;> simp [NV.node] at hv ⊢; exact ⟨hv.2.1.symm, hv.2.2.2.2.2.symm⟩) h
 ·rw [plain8, aH]
  by_cases h : ((8 : Int), wd p, a, b, lo, hi, m, u) = ((8, [0, 0, 0, 0], 0, 0, 0, 0, m, u) : Nd)
  ·rw [hgood h]
   rw [aB (by rfl), aB (by rfl), aB (by rfl), aF (by rfl)]
   by_cases g1 : 1 <= m
   ·rw [aF (by simp; omega)]
    by_cases g2 : m <= 9
    ·obtain ⟨m', rfl⟩ : ∃ m' : Nat, m = (m' : Int) := ⟨m.toNat, by omega⟩
     rw [decide_eq_true g2]
     exact Or.inl ⟨rfl, .ref m', h, by simp [NV.ok]; omega⟩
    ·rw [decide_eq_false g2]
     refine Or.inr ⟨rfl, fun v hv => ?_⟩
     have e1 := congrArg (fun x : Nd => x.2.2.2.2.2.2.1) hv
     have e0 := congrArg (fun x : Nd => x.1) hv
     cases v <;> simp [NV.node] at e0 e1
     simp [NV.ok]; omega
   ·rw [aB (by simp; omega)]
    refine Or.inr ⟨rfl, fun v hv => ?_⟩
    have e1 := congrArg (fun x : Nd => x.2.2.2.2.2.2.1) hv
    have e0 := congrArg (fun x : Nd => x.1) hv
    cases v <;> simp [NV.node] at e0 e1
    simp [NV.ok]; omega
  ·exact hbad (fun v hv => by rw [hv]; cases v <;> simp [NV.node] at hv ⊢; exact hv.2.2.2.2.2.symm) h
end Go.Dec
namespace Go.Dec
def Pt.nv (o : Nat) : Pt -> NV
 | .empty => .empty
 | .bytes p => .bytes p
 | .bol => .bol
 | .eol => .eol
 | .cat a b => .cat (a.top o) (b.top (o + a.sz))
 | .alt a b => .alt (a.top o) (b.top (o + a.sz))
 | .times a lo hi => .times (a.top o) lo hi
 | .group a m => .group (a.top o) m
 | .ref m => .ref m
def Pt.zMt (o : Nat) : Pt -> List Nd
 | .cat a b => a.enc o ++ b.enc (o + a.sz)
 | .alt a b => a.enc o ++ b.enc (o + a.sz)
 | .times a _ _ => a.enc o
 | .group a _ => a.enc o
 | _ => []
theorem Pt.Xh (o : Nat) (t : Pt) : t.enc o = t.zMt o ++ [(t.nv o).node] := by
 cases t <;> rfl
theorem Pt.zMu (o : Nat) (t : Pt) : (t.zMt o).length + 1 = t.sz := by
 have := t.bL o
 rw [t.Xh] at this
 simpa using this
theorem Pt.Nc (o : Nat) (t : Pt) : (t.nv o).node.1 = t.kind := by cases t <;> rfl
def At (l : List Nd) (o : Nat) (t : Pt) : Prop := ∃ pre post, l = pre ++ t.enc o ++ post ∧ pre.length = o
theorem At.node {l : List Nd} {o : Nat} {t : Pt} (h : At l o t) : l[o + t.sz - 1]? = some (t.nv o).node := by
 obtain ⟨pre, post, rfl, hp⟩ := h
 have hb := t.zMu o
 rw [t.Xh, <- List.append_assoc, List.append_assoc, List.getElem?_append_right (by rw [List.length_append]; omega)]
 rw [List.length_append, show o + t.sz - 1 - (pre.length + (t.zMt o).length) = 0 by omega]
 rfl
theorem At.len {l : List Nd} {o : Nat} {t : Pt} (h : At l o t) : o + t.sz <= l.length := by
 obtain ⟨pre, post, rfl, hp⟩ := h
 simp only [List.length_append, Pt.bL]; omega
theorem At.top {l : List Nd} {o : Nat} {t : Pt} (h : At l o t) : inB (t.top o) l.length = true ∧ ∀ d, bB d l (t.top o) = (t.nv o).node := by
 have h1 := h.node
 have h2 := h.len
 have h3 := t.eB
 have e : t.top o = ((o + t.sz - 1 : Nat) : Int) := by unfold Pt.top; omega
 rw [e]
 refine ⟨jP (by omega), fun d => ?_⟩
 rw [iX (by omega)]
 rw [List.getElem?_eq_getElem (by omega)] at h1
 exact Option.some.inj h1
theorem At.Vh {l : List Nd} {o : Nat} {a b : Pt} (h : At l o (.cat a b)) : At l o a ∧ At l (o + a.sz) b := by
 obtain ⟨pre, post, rfl, hp⟩ := h
 exact ⟨⟨pre, b.enc (o + a.sz) ++ ([(Pt.nv o (.cat a b)).node] ++ post), by simp [Pt.enc, Pt.nv, NV.node], hp⟩, ⟨pre ++ a.enc o, [(Pt.nv o (.cat a b)).node] ++ post, by simp [Pt.enc, Pt.nv, NV.node], by rw [List.length_append, Pt.bL, hp]⟩⟩
theorem At.alt1 {l : List Nd} {o : Nat} {a b : Pt} (h : At l o (.alt a b)) : At l o a ∧ At l (o + a.sz) b := by
 obtain ⟨pre, post, rfl, hp⟩ := h
 exact ⟨⟨pre, b.enc (o + a.sz) ++ ([(Pt.nv o (.alt a b)).node] ++ post), by simp [Pt.enc, Pt.nv, NV.node], hp⟩, ⟨pre ++ a.enc o, [(Pt.nv o (.alt a b)).node] ++ post, by simp [Pt.enc, Pt.nv, NV.node], by rw [List.length_append, Pt.bL, hp]⟩⟩
theorem At.zBt {l : List Nd} {o : Nat} {a : Pt} {lo hi : Int} (h : At l o (.times a lo hi)) : At l o a := by
 obtain ⟨pre, post, rfl, hp⟩ := h
 exact ⟨pre, [(Pt.nv o (.times a lo hi)).node] ++ post, by simp [Pt.enc, Pt.nv, NV.node], hp⟩
theorem At.zBu {l : List Nd} {o : Nat} {a : Pt} {m : Nat} (h : At l o (.group a m)) : At l o a := by
 obtain ⟨pre, post, rfl, hp⟩ := h
 exact ⟨pre, [(Pt.nv o (.group a m)).node] ++ post, by simp [Pt.enc, Pt.nv, NV.node], hp⟩
theorem At.self (t : Pt) : At (t.enc 0) 0 t := ⟨[], [], by simp, rfl⟩
def bY : Pt -> Bool
 | .bytes p => !dS p
 | .cat a b => bY a && bY b
 | .alt a b => bY a && bY b
 | .times a lo hi => bY a && iT lo hi
 | .group a m => bY a && (decide (1 <= m) && decide (m <= 9))
 | .ref m => decide (1 <= m) && decide (m <= 9)
 | _ => true
def mQ : Pt -> Bool
 | .cat a b => mQ a && mQ b && (decide (a.kind ≠ 4) && decide (a.kind ≠ 5) && decide (b.kind ≠ 5))
 | .alt a b => mQ a && mQ b && decide (a.kind ≠ 5)
 | .times a _ _ => mQ a && (decide (a.kind = 1) || decide (a.kind = 7) || decide (a.kind = 8))
 | .group a _ => mQ a
 | _ => true
def lY : Pt -> Bool
 | .empty => false
 | .cat a b => lY a && lY b
 | .alt a b => lY a && lY b
 | .times a _ _ => lY a
 | .group a _ => lY a
 | _ => true
def encR : List Pt -> List Nd
 | [] => []
 | t :: st => encR st ++ t.enc (szA st)
def dY : List Pt -> List Int
 | [] => []
 | t :: st => dY st ++ [t.top (szA st)]
theorem xE : ∀ st : List Pt, (encR st).length = szA st
 | [] => rfl
 | t :: st => by simp only [encR, szA, List.length_append, xE st, Pt.bL]; omega
theorem lZ : ∀ st : List Pt, (dY st).length = st.length
 | [] => rfl
 | t :: st => by simp only [dY, List.length_append, lZ st, List.length_cons, List.length_nil]
def gL (len : Nat) (st : List Pt) (v : NV) : Option (List Pt) :=
 match v with
 | .empty => if len > 1 then none else some (.empty :: st)
 | .bytes p => some (.bytes p :: st)
 | .bol => some (.bol :: st)
 | .eol => some (.eol :: st)
 | .ref m => some (.ref m :: st)
 | .cat x y => match st with
  | b :: a :: st' => if a.top (szA st') = x ∧ b.top (szA st' + a.sz) = y ∧ a.kind ≠ 4 ∧ a.kind ≠ 5 ∧ b.kind ≠ 5 then some (.cat a b :: st') else none
  | _ => none
 | .alt x y => match st with
  | b :: a :: st' => if a.top (szA st') = x ∧ b.top (szA st' + a.sz) = y ∧ a.kind ≠ 5 then some (.alt a b :: st') else none
  | _ => none
 | .times x lo hi => match st with
  | a :: st' => if a.top (szA st') = x ∧ (a.kind = 1 ∨ a.kind = 7 ∨ a.kind = 8) then some (.times a lo hi :: st') else none
  | _ => none
 | .group x m => match st with
  | a :: st' => if a.top (szA st') = x then some (.group a m :: st') else none
  | _ => none
theorem xG (st : List Pt) (a : Pt) : szA (a :: st) = szA st + a.sz := by simp only [szA]; omega
theorem Cz {len : Nat} {st st2 : List Pt} {v : NV} (h : gL len st v = some st2) : encR st2 = encR st ++ [v.node] := by
 unfold gL at h
 cases v <;> simp only at h
 case empty => split at h <;> simp at h; subst h; rfl
 case bytes p => simp at h; subst h; rfl
 case bol => simp at h; subst h; rfl
 case eol => simp at h; subst h; rfl
 case ref m => simp at h; subst h; rfl
 case cat x y =>
  match st, h with
  | [], h => simp at h
  | [_], h => simp at h
  | b :: a :: st', h =>
   simp only at h
   split at h <;> simp at h
   rename_i hc
   subst h
   simp only [encR, Pt.enc, xG, List.append_assoc, NV.node, hc.1, hc.2.1]
 case alt x y =>
  match st, h with
  | [], h => simp at h
  | [_], h => simp at h
  | b :: a :: st', h =>
   simp only at h
   split at h <;> simp at h
   rename_i hc
   subst h
   simp only [encR, Pt.enc, xG, List.append_assoc, NV.node, hc.1, hc.2.1]
 case times x lo hi =>
  match st, h with
  | [], h => simp at h
  | a :: st', h =>
   simp only at h
   split at h <;> simp at h
   rename_i hc
   subst h
   simp only [encR, Pt.enc, List.append_assoc, NV.node, hc.1]
 case group x m =>
  match st, h with
  | [], h => simp at h
  | a :: st', h =>
   simp only at h
   split at h <;> simp at h
   rename_i hc
   subst h
   simp only [encR, Pt.enc, List.append_assoc, NV.node, hc]
def yL (len : Nat) (t : Pt) : Prop := bY t = true ∧ mQ t = true ∧ (len > 1 -> lY t = true)
theorem zMv {len : Nat} {st st2 : List Pt} {v : NV} (hv : v.ok = true) (hst : ∀ t ∈ st, yL len t) (h : gL len st v = some st2) : ∀ t ∈ st2, yL len t := by
 unfold gL at h
 cases v <;> simp only at h
 case empty =>
  split at h <;> simp at h; subst h
  rename_i hl
  intro t ht
  rcases List.mem_cons.1 ht with rfl | ht
  ·exact ⟨rfl, rfl, fun h => absurd h hl⟩
  ·exact hst t ht
 case bytes p => simp at h; subst h; intro t ht; rcases List.mem_cons.1 ht with rfl | ht; exact ⟨hv, rfl, fun _ => rfl⟩; exact hst t ht
 case bol => simp at h; subst h; intro t ht; rcases List.mem_cons.1 ht with rfl | ht; exact ⟨rfl, rfl, fun _ => rfl⟩; exact hst t ht
 case eol => simp at h; subst h; intro t ht; rcases List.mem_cons.1 ht with rfl | ht; exact ⟨rfl, rfl, fun _ => rfl⟩; exact hst t ht
 case ref m => simp at h; subst h; intro t ht; rcases List.mem_cons.1 ht with rfl | ht; exact ⟨hv, rfl, fun _ => rfl⟩; exact hst t ht
 case cat x y =>
  match st, h with
  | [], h => simp at h
  | [_], h => simp at h
  | b :: a :: st', h =>
   simp only at h
   split at h <;> simp at h
   rename_i hc
   subst h
   intro t ht
   have ha := hst a (by simp)
   have hb := hst b (by simp)
   rcases List.mem_cons.1 ht with rfl | ht
   ·exact ⟨by simp [bY, ha.1, hb.1], by simp [mQ, ha.2.1, hb.2.1, hc.2.2.1, hc.2.2.2.1, hc.2.2.2.2], fun hl => by simp [lY, ha.2.2 hl, hb.2.2 hl]⟩
   ·exact hst t (by simp [ht])
 case alt x y =>
  match st, h with
  | [], h => simp at h
  | [_], h => simp at h
  | b :: a :: st', h =>
   simp only at h
   split at h <;> simp at h
   rename_i hc
   subst h
   intro t ht
   have ha := hst a (by simp)
   have hb := hst b (by simp)
   rcases List.mem_cons.1 ht with rfl | ht
   ·exact ⟨by simp [bY, ha.1, hb.1], by simp [mQ, ha.2.1, hb.2.1, hc.2.2], fun hl => by simp [lY, ha.2.2 hl, hb.2.2 hl]⟩
   ·exact hst t (by simp [ht])
 case times x lo hi =>
  match st, h with
  | [], h => simp at h
  | a :: st', h =>
   simp only at h
   split at h <;> simp at h
   rename_i hc
   subst h
   intro t ht
   have ha := hst a (by simp)
   rcases List.mem_cons.1 ht with rfl | ht
   ·refine ⟨by simp only [bY, ha.1, Bool.true_and]; exact hv, ?_, fun hl => by simp [lY, ha.2.2 hl]⟩
    simp only [mQ, ha.2.1, Bool.true_and, Bool.or_eq_true, decide_eq_true_eq]
    rcases hc.2 with h | h | h
    ·exact Or.inl (Or.inl h)
    ·exact Or.inl (Or.inr h)
    ·exact Or.inr h
   ·exact hst t (by simp [ht])
 case group x m =>
  match st, h with
  | [], h => simp at h
  | a :: st', h =>
   simp only at h
   split at h <;> simp at h
   rename_i hc
   subst h
   intro t ht
   have ha := hst a (by simp)
   rcases List.mem_cons.1 ht with rfl | ht
   ·exact ⟨by simp only [bY, ha.1, Bool.true_and]; exact hv, by simp [mQ, ha.2.1], fun hl => by simp [lY, ha.2.2 hl]⟩
   ·exact hst t (by simp [ht])
def mI (len : Nat) : List NV -> List Pt -> Option (List Pt)
 | [], st => some st
 | v :: vs, st => match gL len st v with
  | none => none
  | some st2 => mI len vs st2
theorem qZ (len : Nat) : ∀ (a b : List NV) (st : List Pt), mI len (a ++ b) st = (mI len a st).bind (mI len b)
 | [], b, st => rfl
 | v :: a, b, st => by
  simp only [List.cons_append, mI]
  cases gL len st v with
  | none => rfl
  | some st2 => exact qZ len a b st2
def Pt.nvs (o : Nat) : Pt -> List NV
 | .cat a b => a.nvs o ++ b.nvs (o + a.sz) ++ [.cat (a.top o) (b.top (o + a.sz))]
 | .alt a b => a.nvs o ++ b.nvs (o + a.sz) ++ [.alt (a.top o) (b.top (o + a.sz))]
 | .times a lo hi => a.nvs o ++ [.times (a.top o) lo hi]
 | .group a m => a.nvs o ++ [.group (a.top o) m]
 | .empty => [.empty]
 | .bytes p => [.bytes p]
 | .bol => [.bol]
 | .eol => [.eol]
 | .ref m => [.ref m]
theorem uZ : ∀ (t : Pt) (o : Nat), (t.nvs o).map NV.node = t.enc o
 | .cat a b, o => by simp [Pt.nvs, Pt.enc, uZ a, uZ b, NV.node]
 | .alt a b, o => by simp [Pt.nvs, Pt.enc, uZ a, uZ b, NV.node]
 | .times a _ _, o => by simp [Pt.nvs, Pt.enc, uZ a, NV.node]
 | .group a _, o => by simp [Pt.nvs, Pt.enc, uZ a, NV.node]
 | .empty, _ | .bytes _, _ | .bol, _ | .eol, _ | .ref _, _ => rfl
theorem Cb : ∀ (t : Pt) (o : Nat), bY t = true -> ∀ v ∈ t.nvs o, v.ok = true
 | .cat a b, o, h, v, hv => by
  simp only [bY, Bool.and_eq_true] at h
  simp only [Pt.nvs, List.mem_append, List.mem_singleton] at hv
  rcases hv with (hv | hv) | rfl
  ·exact Cb a o h.1 v hv
  ·exact Cb b _ h.2 v hv
  ·rfl
 | .alt a b, o, h, v, hv => by
  simp only [bY, Bool.and_eq_true] at h
  simp only [Pt.nvs, List.mem_append, List.mem_singleton] at hv
  rcases hv with (hv | hv) | rfl
  ·exact Cb a o h.1 v hv
  ·exact Cb b _ h.2 v hv
  ·rfl
 | .times a lo hi, o, h, v, hv => by
  simp only [bY, Bool.and_eq_true] at h
  simp only [Pt.nvs, List.mem_append, List.mem_singleton] at hv
  rcases hv with hv | rfl
  ·exact Cb a o h.1 v hv
  ·exact h.2
 | .group a m, o, h, v, hv => by
  simp only [bY, Bool.and_eq_true] at h
  simp only [Pt.nvs, List.mem_append, List.mem_singleton] at hv
  rcases hv with hv | rfl
  ·exact Cb a o h.1 v hv
  ·simp only [NV.ok, Bool.and_eq_true]; exact h.2
 | .empty, _, h, v, hv => by simp only [Pt.nvs, List.mem_singleton] at hv; subst hv; rfl
 | .bytes _, _, h, v, hv => by simp only [Pt.nvs, List.mem_singleton] at hv; subst hv; exact h
 | .bol, _, h, v, hv => by simp only [Pt.nvs, List.mem_singleton] at hv; subst hv; rfl
 | .eol, _, h, v, hv => by simp only [Pt.nvs, List.mem_singleton] at hv; subst hv; rfl
 | .ref _, _, h, v, hv => by simp only [Pt.nvs, List.mem_singleton] at hv; subst hv; exact h
theorem pK (len : Nat) : ∀ (t : Pt) (st : List Pt), mQ t = true -> (len > 1 -> lY t = true) -> mI len (t.nvs (szA st)) st = some (t :: st)
 | .cat a b, st, h, hn => by
  simp only [mQ, Bool.and_eq_true, decide_eq_true_eq] at h
  simp only [lY, Bool.and_eq_true] at hn
  have ha := pK len a st h.1.1 (fun hl => (hn hl).1)
  have hb := pK len b (a :: st) h.1.2 (fun hl => (hn hl).2)
  rw [xG] at hb
  simp only [Pt.nvs]
  rw [qZ, qZ, ha]
  simp only [Option.bind_some]
  rw [hb]
  simp only [Option.bind_some, mI, gL]
  rw [if_pos (by refine ⟨?_, ?_, h.2.1.1, h.2.1.2, h.2.2⟩ <;> first | trivial | rfl)]
 | .alt a b, st, h, hn => by
  simp only [mQ, Bool.and_eq_true, decide_eq_true_eq] at h
  simp only [lY, Bool.and_eq_true] at hn
  have ha := pK len a st h.1.1 (fun hl => (hn hl).1)
  have hb := pK len b (a :: st) h.1.2 (fun hl => (hn hl).2)
  rw [xG] at hb
  simp only [Pt.nvs]
  rw [qZ, qZ, ha]
  simp only [Option.bind_some]
  rw [hb]
  simp only [Option.bind_some, mI, gL]
  rw [if_pos (by refine ⟨?_, ?_, h.2⟩ <;> first | trivial | rfl)]
 | .times a lo hi, st, h, hn => by
  simp only [mQ, Bool.and_eq_true, Bool.or_eq_true, decide_eq_true_eq] at h
  simp only [lY] at hn
  have ha := pK len a st h.1 hn
  simp only [Pt.nvs]
  rw [qZ, ha]
  simp only [Option.bind_some, mI, gL]
  rw [if_pos (by refine ⟨?_, by rcases h.2 with (h | h) | h; exact Or.inl h; exact Or.inr (Or.inl h); exact Or.inr (Or.inr h)⟩; first | trivial | rfl)]
 | .group a m, st, h, hn => by
  simp only [mQ] at h
  simp only [lY] at hn
  have ha := pK len a st h hn
  simp only [Pt.nvs]
  rw [qZ, ha]
  simp only [Option.bind_some, mI, gL]
  rw [if_pos (by first | trivial | rfl)]
 | .empty, st, h, hn => by
  simp only [Pt.nvs, mI, gL]
  rw [if_neg (fun hl => by simp [lY] at hn; omega)]
 | .bytes _, st, _, _ => rfl
 | .bol, st, _, _ => rfl
 | .eol, st, _, _ => rfl
 | .ref _, st, _, _ => rfl
end Go.Dec
namespace Go.Dec
theorem zRx {n : Nat} (hn : 5 <= n) {k : Int} (hk : 0 <= k) (hk8 : k <= 8) : mH n ([1, 7, 8], k) = some (decide (k = 1) || decide (k = 7) || decide (k = 8)) := by
 obtain ⟨n, rfl⟩ : ∃ m, n = m + 5 := ⟨n - 5, by omega⟩
 have hcase : k = 0 ∨ k = 1 ∨ k = 2 ∨ k = 3 ∨ k = 4 ∨ k = 5 ∨ k = 6 ∨ k = 7 ∨ k = 8 := by omega
 rcases hcase with rfl | rfl | rfl | rfl | rfl | rfl | rfl | rfl | rfl <;> rfl
theorem zBv (t : Pt) : 0 <= t.kind ∧ t.kind <= 8 := by cases t <;> simp [Pt.kind]
section
variable {n : Nat} {l : List Nd} {st : List Pt}
theorem zJt {i : Nat} {a b : Pt} (h : encR (b :: a :: st) = l.take i) : At l (szA st) a ∧ At l (szA st + a.sz) b := by
 have hl : l = encR (b :: a :: st) ++ l.drop i := by rw [h, List.take_append_drop]
 simp only [encR] at hl
 refine ⟨⟨encR st, b.enc (szA st + a.sz) ++ l.drop i, ?_, xE st⟩, ⟨encR st ++ a.enc (szA st), l.drop i, ?_, by rw [List.length_append, xE, Pt.bL]⟩⟩
 ·rw [xG] at hl; rw [List.append_assoc] at hl ⊢; rw [List.append_assoc] at hl; exact hl
 ·rw [xG] at hl; exact hl
theorem at_one {i : Nat} {a : Pt} (h : encR (a :: st) = l.take i) : At l (szA st) a := by
 have hl : l = encR (a :: st) ++ l.drop i := by rw [h, List.take_append_drop]
 exact ⟨encR st, l.drop i, hl, xE st⟩
theorem vB {v : NV} (h : v.node.1 ≠ 4) (h2 : v.node.1 ≠ 5) (h3 : v.node.1 ≠ 6) : iQ n (l, v.node) = some true := by
 unfold iQ
 simp only
 rw [aB (by simpa using h), aB (by simpa using h2), aB (by simpa using h3)]
theorem zMw {oa ob' : Nat} {a b : Pt} (ha : At l oa a) (hb : At l ob' b) : iQ n (l, (NV.cat (a.top oa) (b.top ob')).node) = some (decide (a.kind ≠ 4 ∧ a.kind ≠ 5 ∧ b.kind ≠ 5)) := by
 unfold iQ
 simp only [NV.node]
 rw [aF (by rfl), aA ha.top.1, ha.top.2, Pt.Nc, aA ha.top.1, aA hb.top.1, hb.top.2, Pt.Nc]
 by_cases h1 : a.kind = 4
 ·rw [aB (by simp [h1]), decide_eq_false (by intro h; exact h.1 h1)]
 ·rw [aF (by simpa using h1)]
  by_cases h2 : a.kind = 5
  ·rw [aB (by simp [h2]), decide_eq_false (by intro h; exact h.2.1 h2)]
  ·rw [aF (by simpa using h2)]
   congr 1
   rw [Bool.eq_iff_iff]; simp [h1, h2]
theorem zMx {oa : Nat} {y : Int} {a : Pt} (ha : At l oa a) : iQ n (l, (NV.alt (a.top oa) y).node) = some (decide (a.kind ≠ 5)) := by
 unfold iQ
 simp only [NV.node]
 rw [aB (by rfl), aF (by rfl), aA ha.top.1, ha.top.2, Pt.Nc]
 congr 1
 rw [Bool.eq_iff_iff]; simp
theorem zHh {oa : Nat} {lo hi : Int} {a : Pt} (hn : 5 <= n) (ha : At l oa a) : iQ n (l, (NV.times (a.top oa) lo hi).node) = some (decide (a.kind = 1) || decide (a.kind = 7) || decide (a.kind = 8)) := by
 unfold iQ
 simp only [NV.node]
 rw [aB (by rfl), aB (by rfl), aF (by rfl), aA ha.top.1, ha.top.2, Pt.Nc, zRx hn (zBv a).1 (zBv a).2]
 rfl
def NV.parts : NV -> Nat
 | .cat _ _ | .alt _ _ => 2
 | .times _ _ _ | .group _ _ => 1
 | _ => 0
theorem parts_eq (v : NV) : gB n v.node = some (v.parts : Int) := by cases v <;> rfl
theorem Vi (a : Pt) : (dY (a :: st)).take st.length = dY st := by
 simp only [dY]; rw [List.take_append_of_le_length (by rw [lZ]; omega), List.take_of_length_le (by rw [lZ]; omega)]
theorem zBw (a b : Pt) : (dY (b :: a :: st)).take st.length = dY st := by
 rw [dY, List.take_append_of_le_length (by rw [lZ]; simp), Vi]
theorem Vj (a : Pt) : (dY (a :: st)).getD (0 + st.length + 0) 0 = a.top (szA st) := by
 rw [dY, List.getD_eq_getElem?_getD, List.getElem?_append_right (by rw [lZ]; omega), lZ]; simp
theorem zBx (a b : Pt) : (dY (b :: a :: st)).getD (0 + st.length + 0) 0 = a.top (szA st) := by
 rw [dY, List.getD_eq_getElem?_getD, List.getElem?_append_left (by rw [lZ]; simp), <- List.getD_eq_getElem?_getD, Vj]
theorem zBy (a b : Pt) : (dY (b :: a :: st)).getD (0 + st.length + 1) 0 = b.top (szA st + a.sz) := by
 rw [dY, List.getD_eq_getElem?_getD, List.getElem?_append_right (by rw [lZ]; simp), lZ, xG]; simp
theorem zBz {g : List Nd × List Nd × Int × Int × List Int × Unit -> Option Bool} {i : Nat} {v : NV} (hn : 5 <= n) (hl : l.length < 1000000) (hi : i < l.length) (hv : l[i]? = some v.node) (hok : v.ok = true) (hw : Lv v.node) (hst : st.length <= i) (hsz : szA st = i) (he : encR st = l.take i) :
  eX n g (l, l, (l.length : Int), (i : Int), dY st, ()) = match gL l.length st v with
   | none => some false
   | some st2 => g (l, l, (l.length : Int), ((i + 1 : Nat) : Int), dY st2, ()) := by
 unfold eX
 simp only
 have hget : ∀ d, bB d l (i : Int) = v.node := by
  intro d
  rw [iX hi]
  rw [List.getElem?_eq_getElem hi] at hv
  exact Option.some.inj hv
 rw [aF (by simp; omega), aA (jP hi), hget, parts_eq]
 simp only [aH]
 have hone : nU n v.node = some true := by
  rcases zBs (n := n) hw with ⟨h, _⟩ | ⟨_, h⟩
  ·exact h
  ·have := h v rfl; rw [hok] at this; exact absurd this (by simp)
 rw [hone]
 simp only [aH, Bool.not_true, aZ]
 have hi1 : IntKind.wrap .i64 ((i : Int) + 1) = ((i + 1 : Nat) : Int) := by rw [bT (by omega) (by omega)]; rfl
 have hlen := lZ st
 have hfin : ∀ (v0 : NV) (k : Nat) (st2 : List Pt), k <= st.length -> dY st2 = (dY st).take k ++ [(i : Int)] ->
   chk ((decide ((0 : Int) <= (k : Int)) && decide ((k : Int) <= (st.length : Int)))) (
     chk ((Nat.ble ((k : Int).toNat) st.length && Nat.ble ((((k : Int).toNat) + ([(i : Int)] : List Int).length) * 8) room)) (
      g (l, l, (l.length : Int), IntKind.wrap .i64 ((i : Int) + 1), (dY st).take ((k : Int).toNat) ++ [(i : Int)], ()))) = g (l, l, (l.length : Int), ((i + 1 : Nat) : Int), dY st2, ()) := by
  intro v0 k st2 hk h2
  rw [aA (by simp; omega), aA (by simp [room]; omega), hi1, Int.toNat_natCast, h2]
 have hd : Ty.dflt (.int .i64) = (0 : Int) := rfl
 have hK : ∀ (p : Nat), p <= st.length -> IntKind.wrap .i64 (((st.length : Nat) : Int) - (p : Int)) = ((st.length - p : Nat) : Int) := by
  intro p hp; rw [bT (by omega) (by omega)]; omega
 have htop : ∀ t : Pt, t.sz = 1 -> dY (t :: st) = (dY st).take st.length ++ [(i : Int)] := by
  intro t ht
  rw [List.take_of_length_le (by omega)]
  simp only [dY, Pt.top, ht, hsz]; congr 2; omega
 rw [hlen]
 have hcut : ∀ (p : Nat), p <= st.length -> ((st.length - ((st.length - p : Nat) : Int).toNat : Nat) : Int) = (p : Int) := by
  intro p hp; rw [Int.toNat_natCast]; omega
 cases v with
 | empty =>
  rw [show (NV.empty).parts = 0 from rfl, hK 0 (by omega), aB (by simp), aF (by rfl)]
  by_cases h1 : l.length > 1
  ·rw [aF (by simp; omega)]; simp only [gL]; rw [if_pos h1]
  ·rw [aB (by simp; omega), aA (by simp), hcut 0 (by omega), aB (by simp), vB (by simp [NV.node]) (by simp [NV.node]) (by simp [NV.node])]
   simp only [aH, Bool.not_true, aZ, gL]
   rw [if_neg h1]
   exact hfin .empty _ _ (by omega) (htop .empty rfl)
 | bytes p =>
  rw [show (NV.bytes p).parts = 0 from rfl, hK 0 (by omega), aB (by simp), aB (by rfl), aA (by simp), hcut 0 (by omega), aB (by simp), vB (by simp [NV.node]) (by simp [NV.node]) (by simp [NV.node])]
  simp only [aH, Bool.not_true, aZ, gL]
  exact hfin .empty _ _ (by omega) (htop (.bytes p) rfl)
 | bol =>
  rw [show (NV.bol).parts = 0 from rfl, hK 0 (by omega), aB (by simp), aB (by rfl), aA (by simp), hcut 0 (by omega), aB (by simp), vB (by simp [NV.node]) (by simp [NV.node]) (by simp [NV.node])]
  simp only [aH, Bool.not_true, aZ, gL]
  exact hfin .empty _ _ (by omega) (htop .bol rfl)
 | eol =>
  rw [show (NV.eol).parts = 0 from rfl, hK 0 (by omega), aB (by simp), aB (by rfl), aA (by simp), hcut 0 (by omega), aB (by simp), vB (by simp [NV.node]) (by simp [NV.node]) (by simp [NV.node])]
  simp only [aH, Bool.not_true, aZ, gL]
  exact hfin .empty _ _ (by omega) (htop .eol rfl)
 | ref m =>
  rw [show (NV.ref m).parts = 0 from rfl, hK 0 (by omega), aB (by simp), aB (by rfl), aA (by simp), hcut 0 (by omega), aB (by simp), vB (by simp [NV.node]) (by simp [NV.node]) (by simp [NV.node])]
  simp only [aH, Bool.not_true, aZ, gL]
  exact hfin .empty _ _ (by omega) (htop (.ref m) rfl)
 | times x lo hi =>
  cases st with
  | nil => rfl
  | cons a st =>
   have ha : At l (szA st) a := at_one he
   rw [show (NV.times x lo hi).parts = 1 from rfl, hK 1 (by simp), aB (by simp), aB (by rfl), aA (by simp; omega), hcut 1 (by simp), aF (by rfl)]
   simp only [List.length_cons, Nat.add_sub_cancel, Int.toNat_natCast]
   rw [aA (by simp [inB]), aA (by simp), hd, show (0 : Int).toNat = 0 from rfl, Vj]
   simp only [gL, NV.node]
   by_cases hx : a.top (szA st) = x
   ·subst hx
    rw [aB (by simp), aB (by rfl)]
    have hf := zHh (n := n) (lo := lo) (hi := hi) hn ha
    simp only [NV.node] at hf
    rw [hf]
    simp only [aH]
    have hlt := a.eB
    by_cases hk : a.kind = 1 ∨ a.kind = 7 ∨ a.kind = 8
    ·rw [if_pos ⟨trivial, hk⟩, aB (by rcases hk with h | h | h <;> simp [h])]
     have e : dY (.times a lo hi :: st) = (dY (a :: st)).take st.length ++ [(i : Int)] := by
      rw [Vi]; simp only [dY, Pt.top, Pt.sz]; rw [xG] at hsz; congr 2; omega
     have := hfin .empty st.length (.times a lo hi :: st) (by simp) e
     simpa using this
    ·rw [if_neg (fun h => hk h.2), aF (by simp only [not_or] at hk; simp [hk.1, hk.2.1, hk.2.2])]
   ·rw [if_neg (fun h => hx h.1), aF (by simpa using hx)]
 | group x m =>
  cases st with
  | nil => rfl
  | cons a st =>
   have ha : At l (szA st) a := at_one he
   rw [show (NV.group x m).parts = 1 from rfl, hK 1 (by simp), aB (by simp), aB (by rfl), aA (by simp; omega), hcut 1 (by simp), aF (by rfl)]
   simp only [List.length_cons, Nat.add_sub_cancel, Int.toNat_natCast]
   rw [aA (by simp [inB]), aA (by simp), hd, show (0 : Int).toNat = 0 from rfl, Vj]
   simp only [gL, NV.node]
   by_cases hx : a.top (szA st) = x
   ·subst hx
    rw [aB (by simp), aB (by rfl)]
    have hf := vB (n := n) (l := l) (v := .group (a.top (szA st)) m) (by simp [NV.node]) (by simp [NV.node]) (by simp [NV.node])
    simp only [NV.node] at hf
    rw [hf]
    simp only [aH]
    have hlt := a.eB
    rw [if_pos trivial, aB (by rfl)]
    have e : dY (.group a m :: st) = (dY (a :: st)).take st.length ++ [(i : Int)] := by
     rw [Vi]; simp only [dY, Pt.top, Pt.sz]; rw [xG] at hsz; congr 2; omega
    have := hfin .empty st.length (.group a m :: st) (by simp) e
    simpa using this
   ·rw [if_neg hx, aF (by simpa using hx)]
 | cat x y =>
  match st, hlen, hsz, he, hst, hK, hcut, hfin with
  | [], _, _, _, _, _, _, _ => rfl
  | [_], _, _, _, _, _, _, _ => rfl
  | b :: a :: st, hlen, hsz, he, hst, hK, hcut, hfin =>
   obtain ⟨ha, hb⟩ := zJt he
   rw [show (NV.cat x y).parts = 2 from rfl, hK 2 (by simp), aB (by simp), aB (by rfl), aA (by simp; omega), hcut 2 (by simp), aF (by rfl)]
   simp only [List.length_cons, Nat.add_sub_cancel, Int.toNat_natCast, show ∀ k, k + 1 + 1 - 2 = k from fun k => rfl]
   rw [aA (by simp [inB]; omega), aA (by simp; omega), hd, show (0 : Int).toNat = 0 from rfl, show (1 : Int).toNat = 1 from rfl, zBx, zBy]
   simp only [gL, NV.node]
   by_cases hx : a.top (szA st) = x
   ·subst hx
    rw [aB (by simp), aF (by rfl), aA (by simp [inB]; omega), aA (by simp)]
    by_cases hy : b.top (szA st + a.sz) = y
    ·subst hy
     rw [aB (by simp)]
     have hf := zMw (n := n) ha hb
     simp only [NV.node] at hf
     rw [hf]
     simp only [aH]
     have hlt := a.eB
     by_cases hk : a.kind ≠ 4 ∧ a.kind ≠ 5 ∧ b.kind ≠ 5
     ·rw [if_pos ⟨trivial, trivial, hk⟩, decide_eq_true hk, aB (by rfl)]
      have e : dY (.cat a b :: st) = (dY (b :: a :: st)).take st.length ++ [(i : Int)] := by
       rw [zBw]; simp only [dY, Pt.top, Pt.sz]; rw [xG, xG] at hsz; congr 2; omega
      have := hfin .empty st.length (.cat a b :: st) (by simp; omega) e
      simpa using this
     ·rw [if_neg (fun h => hk h.2.2), decide_eq_false hk, aF (by rfl)]
    ·rw [if_neg (fun h => hy h.2.1), aF (by simpa using hy)]
   ·rw [if_neg (fun h => hx h.1), aF (by simpa using hx)]
 | alt x y =>
  match st, hlen, hsz, he, hst, hK, hcut, hfin with
  | [], _, _, _, _, _, _, _ => rfl
  | [_], _, _, _, _, _, _, _ => rfl
  | b :: a :: st, hlen, hsz, he, hst, hK, hcut, hfin =>
   obtain ⟨ha, hb⟩ := zJt he
   rw [show (NV.alt x y).parts = 2 from rfl, hK 2 (by simp), aB (by simp), aB (by rfl), aA (by simp; omega), hcut 2 (by simp), aF (by rfl)]
   simp only [List.length_cons, Nat.add_sub_cancel, Int.toNat_natCast, show ∀ k, k + 1 + 1 - 2 = k from fun k => rfl]
   rw [aA (by simp [inB]; omega), aA (by simp; omega), hd, show (0 : Int).toNat = 0 from rfl, show (1 : Int).toNat = 1 from rfl, zBx, zBy]
   simp only [gL, NV.node]
   by_cases hx : a.top (szA st) = x
   ·subst hx
    rw [aB (by simp), aF (by rfl), aA (by simp [inB]; omega), aA (by simp)]
    by_cases hy : b.top (szA st + a.sz) = y
    ·subst hy
     rw [aB (by simp)]
     have hf := zMx (n := n) (y := b.top (szA st + a.sz)) ha
     simp only [NV.node] at hf
     rw [hf]
     simp only [aH]
     have hlt := a.eB
     by_cases hk : a.kind ≠ 5
     ·rw [if_pos ⟨trivial, trivial, hk⟩, decide_eq_true hk, aB (by rfl)]
      have e : dY (.alt a b :: st) = (dY (b :: a :: st)).take st.length ++ [(i : Int)] := by
       rw [zBw]; simp only [dY, Pt.top, Pt.sz]; rw [xG, xG] at hsz; congr 2; omega
      have := hfin .empty st.length (.alt a b :: st) (by simp; omega) e
      simpa using this
     ·rw [if_neg (fun h => hk h.2.2), decide_eq_false hk, aF (by rfl)]
    ·rw [if_neg (fun h => hy h.2.1), aF (by simpa using hy)]
   ·rw [if_neg (fun h => hx h.1), aF (by simpa using hx)]
end
end Go.Dec
namespace Go.Dec
theorem zCa : ∀ st : List Pt, st.length <= szA st
 | [] => Nat.le_refl _
 | t :: st => by have := zCa st; have := t.eB; simp only [List.length_cons, szA]; omega
theorem zCb {len : Nat} {st st2 : List Pt} {v : NV} (h : gL len st v = some st2) : szA st2 = szA st + 1 := by
 have := congrArg List.length (Cz h)
 rw [List.length_append, xE, xE] at this
 simpa using this
section
variable {n : Nat} {l : List Nd}
theorem Xi {i : Nat} {x : Nd} (h : l[i]? = some x) : l.take (i + 1) = l.take i ++ [x] := by
 rw [List.take_add_one, h]; rfl
theorem zEt (hn : 5 <= n) (hl : l.length < 1000000) (hw : ∀ nd ∈ l, Lv nd) : ∀ (vs : List NV) (i : Nat) (st : List Pt) (m : Nat), vs.map NV.node = l.drop i -> (∀ v ∈ vs, v.ok = true) -> i <= l.length -> szA st = i -> encR st = l.take i -> vs.length < m ->
  fix (eX n) m (l, l, (l.length : Int), (i : Int), dY st, ()) = match mI l.length vs st with
   | none => some false
   | some st2 => some (decide (st2.length = 1)) := by
 intro vs
 induction vs with
 | nil =>
  intro i st m hvs _ hi hsz he hm
  have hi2 : i = l.length := by
   have := congrArg List.length hvs
   rw [List.length_drop] at this; simp at this; omega
  rw [cK hm, eX]
  simp only
  rw [aB (by simp; omega), lZ]
  simp only [mI]
  congr 1
  rw [Bool.eq_iff_iff]; simp; omega
 | cons v vs ih =>
  intro i st m hvs hok hi hsz he hm
  have hil : i < l.length := by
   have := congrArg List.length hvs
   rw [List.length_drop] at this; simp at this; omega
  have hv : l[i]? = some v.node := by
   have : (l.drop i)[0]? = some v.node := by rw [<- hvs]; rfl
   rw [List.getElem?_drop] at this; simpa using this
  have zTy : vs.map NV.node = l.drop (i + 1) := by
   have : (l.drop i).drop 1 = vs.map NV.node := by rw [<- hvs]; rfl
   rw [List.drop_drop] at this; exact this.symm
  have hst := zCa st
  rw [cK (by omega), zBz hn hl hil hv (hok v (by simp)) (hw _ (List.mem_of_getElem? hv)) (by omega) hsz he]
  simp only [mI]
  cases hs : gL l.length st v with
  | none => rfl
  | some st2 =>
   simp only
   exact ih (i + 1) st2 (m - 1) zTy (fun v hv => hok v (by simp [hv])) (by omega) (by rw [zCb hs]; omega) (by rw [Cz hs, he, Xi hv]) (by simp only [List.length_cons] at hm; omega)
theorem zPn (hn : 5 <= n) (hl : l.length < 1000000) (hw : ∀ nd ∈ l, Lv nd) {j : Nat} {x : Nd} (hj : l[j]? = some x) (hx : ∀ v : NV, x = v.node -> v.ok = false) : ∀ (k i : Nat) (st : List Pt) (m : Nat), i + k = j -> szA st = i -> encR st = l.take i -> k < m ->
  fix (eX n) m (l, l, (l.length : Int), (i : Int), dY st, ()) = some false := by
 have hjl : j < l.length := (List.getElem?_eq_some_iff.1 hj).1
 intro k
 induction k with
 | zero =>
  intro i st m hi hsz he hm
  have hi : i = j := by omega
  subst hi
  rw [cK hm, eX]
  simp only
  have hget : ∀ d, bB d l (i : Int) = x := by
   intro d
   rw [iX hjl]
   rw [List.getElem?_eq_getElem hjl] at hj
   exact Option.some.inj hj
  rw [aF (by simp; omega), aA (jP hjl), hget]
  have hone : nU n x = some false := by
   rcases zBs (n := n) (hw x (List.mem_of_getElem? hj)) with ⟨_, v, h1, h2⟩ | ⟨h, _⟩
   ·rw [hx v h1] at h2; exact absurd h2 (by simp)
   ·exact h
  rw [hone]
  have hp : ∃ p, gB n x = some p := by
   unfold gB
   simp only
   cases (x.1 == 4) <;> cases (x.1 == 5) <;> cases (x.1 == 6) <;> cases (x.1 == 7) <;> exact ⟨_, rfl⟩
  obtain ⟨p, hp⟩ := hp
  rw [hp]; rfl
 | succ k ih =>
  intro i st m hi hsz he hm
  have hil : i < l.length := by omega
  have hli : l[i]? = some l[i] := List.getElem?_eq_getElem hil
  have hst := zCa st
  rcases zBs (n := n) (hw _ (List.mem_of_getElem? hli)) with ⟨_, v, h1, h2⟩ | ⟨h, _⟩
  ·rw [h1] at hli
   rw [cK (by omega), zBz hn hl hil hli h2 (hw _ (List.mem_of_getElem? hli)) (by omega) hsz he]
   cases hs : gL l.length st v with
   | none => rfl
   | some st2 =>
    simp only
    exact ih (i + 1) st2 (m - 1) (by omega) (by rw [zCb hs]; omega) (by rw [Cz hs, he, Xi hli]) (by omega)
  ·rw [cK (by omega), eX]
   simp only
   have hget : ∀ d, bB d l (i : Int) = l[i] := fun d => iX hil
   rw [aF (by simp; omega), aA (jP hil), hget, h]
   have hp : ∃ p, gB n l[i] = some p := by
    unfold gB
    simp only
    cases (l[i].1 == 4) <;> cases (l[i].1 == 5) <;> cases (l[i].1 == 6) <;> cases (l[i].1 == 7) <;> exact ⟨_, rfl⟩
   obtain ⟨p, hp⟩ := hp
   rw [hp]; rfl
theorem Xj {len : Nat} : ∀ (vs : List NV) (st st2 : List Pt), (∀ v ∈ vs, v.ok = true) -> (∀ t ∈ st, yL len t) -> mI len vs st = some st2 -> encR st2 = encR st ++ vs.map NV.node ∧ ∀ t ∈ st2, yL len t
 | [], st, st2, _, hst, h => by simp only [mI, Option.some.injEq] at h; subst h; exact ⟨by simp, hst⟩
 | v :: vs, st, st2, hv, hst, h => by
  simp only [mI] at h
  cases hs : gL len st v with
  | none => rw [hs] at h; simp at h
  | some st3 =>
   rw [hs] at h
   have := Xj vs st3 st2 (fun v h => hv v (by simp [h])) (zMv (hv v (by simp)) hst hs) h
   exact ⟨by rw [this.1, Cz hs, List.append_assoc]; rfl, this.2⟩
theorem Te : ∀ l : List Nd, (∃ vs : List NV, vs.map NV.node = l ∧ ∀ v ∈ vs, v.ok = true) ∨ (∃ (j : Nat) (x : Nd), l[j]? = some x ∧ ∀ v : NV, x = v.node -> v.ok = false)
 | [] => Or.inl ⟨[], rfl, by simp⟩
 | x :: l => by
  by_cases hx : ∃ v : NV, x = v.node ∧ v.ok = true
  ·obtain ⟨v, h1, h2⟩ := hx
   rcases Te l with ⟨vs, h3, h4⟩ | ⟨j, y, h3, h4⟩
   ·exact Or.inl ⟨v :: vs, by rw [List.map_cons, h3, h1], by intro u hu; rcases List.mem_cons.1 hu with rfl | hu; exact h2; exact h4 u hu⟩
   ·exact Or.inr ⟨j + 1, y, by simpa using h3, h4⟩
  ·exact Or.inr ⟨0, x, rfl, fun v hv => by
    cases h : v.ok
    ·rfl
    ·exact absurd ⟨v, hv, h⟩ hx⟩
theorem zHi (hn : 5 <= n) (hnl : l.length < n) (hl : l.length < 1000000) (hw : ∀ nd ∈ l, Lv nd) :
  (rM n l = some true ∧ ∃ t, l = t.enc 0 ∧ yL l.length t) ∨ (rM n l = some false ∧ ∀ t, l = t.enc 0 -> ¬ yL l.length t) := by
 unfold rM
 simp only
 have hcomp : ∀ t, l = t.enc 0 -> yL l.length t -> fix (eX n) n (l, l, (l.length : Int), 0, [], ()) = some true := by
  intro t ht hk
  have hm : (t.nvs 0).map NV.node = l.drop 0 := by rw [uZ, ht]; rfl
  have hvl : (t.nvs 0).length = l.length := by have := congrArg List.length hm; simpa using this
  have := zEt hn hl hw (t.nvs 0) 0 [] n hm (Cb t 0 hk.1) (by omega) rfl (by rfl) (by omega)
  have hf := pK l.length t [] hk.2.1 hk.2.2
  rw [show szA [] = 0 from rfl] at hf
  rw [hf] at this
  exact this
 rcases Te l with ⟨vs, h1, h2⟩ | ⟨j, x, h1, h2⟩
 ·have hvl : vs.length = l.length := by have := congrArg List.length h1; simpa using this
  have hN := zEt hn hl hw vs 0 [] n (by rw [h1]; rfl) h2 (by omega) rfl (by rfl) (by omega)
  rw [show ((0 : Nat) : Int) = 0 from rfl, show dY [] = [] from rfl] at hN
  cases hf : mI l.length vs [] with
  | none =>
   rw [hf] at hN
   refine Or.inr ⟨hN, fun t ht hk => ?_⟩
   have := hcomp t ht hk
   rw [hN] at this; simp at this
  | some st2 =>
   rw [hf] at hN
   obtain ⟨ho1, ho2⟩ := Xj vs [] st2 h2 (by simp) hf
   by_cases h1l : st2.length = 1
   ·match st2, h1l with
    | [t], _ =>
     refine Or.inl ⟨hN, t, ?_, ho2 t (by simp)⟩
     simp only [encR, szA, List.nil_append, h1] at ho1
     exact ho1.symm
   ·simp only [decide_eq_false h1l] at hN
    refine Or.inr ⟨hN, fun t ht hk => ?_⟩
    have := hcomp t ht hk
    rw [hN] at this; simp at this
 ·have hjl : j < l.length := (List.getElem?_eq_some_iff.1 h1).1
  have hB := zPn hn hl hw h1 h2 j 0 [] n (by omega) rfl rfl (by omega)
  refine Or.inr ⟨hB, fun t ht hk => ?_⟩
  have := hcomp t ht hk
  rw [show ((0 : Nat) : Int) = 0 from rfl, show dY [] = [] from rfl] at hB
  rw [hB] at this; simp at this
end
abbrev W4 : Type := Nat × Bool × List Bool × Bool
def aM : Pt -> W4 -> W4
 | .cat a b, w => aM b (aM a w)
 | .alt a b, w => aM b (aM a w)
 | .times a _ _, w => aM a w
 | .group a m, w => ((aM a (w.1 + 1, w.2.1 && decide (m = w.1 + 1), w.2.2.1, w.2.2.2)).1, (aM a (w.1 + 1, w.2.1 && decide (m = w.1 + 1), w.2.2.1, w.2.2.2)).2.1, (aM a (w.1 + 1, w.2.1 && decide (m = w.1 + 1), w.2.2.1, w.2.2.2)).2.2.1.set m true, (aM a (w.1 + 1, w.2.1 && decide (m = w.1 + 1), w.2.2.1, w.2.2.2)).2.2.2)
 | .ref m, w => (w.1, w.2.1 && w.2.2.1.getD m false, w.2.2.1, true)
 | _, w => w
theorem pO : ∀ (t : Pt) (w : W4), (aM t w).2.2.1.length = w.2.2.1.length
 | .cat a b, w => by simp only [aM]; rw [pO b, pO a]
 | .alt a b, w => by simp only [aM]; rw [pO b, pO a]
 | .times a _ _, w => by simp only [aM]; rw [pO a]
 | .group a m, w => by simp only [aM, List.length_set]; rw [pO a]
 | .ref m, w => rfl
 | .empty, w | .bol, w | .eol, w | .bytes _, w => rfl
theorem yM : ∀ (t : Pt) (w : W4), (aM t w).1 <= w.1 + t.sz
 | .cat a b, w => by simp only [aM, Pt.sz]; have := yM b (aM a w); have := yM a w; omega
 | .alt a b, w => by simp only [aM, Pt.sz]; have := yM b (aM a w); have := yM a w; omega
 | .times a _ _, w => by simp only [aM, Pt.sz]; have := yM a w; omega
 | .group a m, w => by simp only [aM, Pt.sz]; have := yM a (w.1 + 1, w.2.1 && decide (m = w.1 + 1), w.2.2.1, w.2.2.2); simp only at this; omega
 | .ref m, w => by simp only [aM]; omega
 | .empty, w | .bol, w | .eol, w | .bytes _, w => by simp only [aM]; omega
theorem uT : ∀ (t : Pt) (g : Nat) (i c : Bool) (e : List Bool) (r : Bool), aM t (g, i && c, e, r) = ((aM t (g, i, e, r)).1, (aM t (g, i, e, r)).2.1 && c, (aM t (g, i, e, r)).2.2.1, (aM t (g, i, e, r)).2.2.2)
 | .cat a b, g, i, c, e, r => by
  simp only [aM]
  rw [uT a]
  rw [uT b (aM a (g, i, e, r)).1 (aM a (g, i, e, r)).2.1]
 | .alt a b, g, i, c, e, r => by
  simp only [aM]
  rw [uT a]
  rw [uT b (aM a (g, i, e, r)).1 (aM a (g, i, e, r)).2.1]
 | .times a _ _, g, i, c, e, r => by simp only [aM]; rw [uT a]
 | .group a m, g, i, c, e, r => by
  simp only [aM]
  have : (i && c && decide (m = g + 1)) = (i && decide (m = g + 1) && c) := by cases i <;> cases c <;> cases decide (m = g + 1) <;> rfl
  rw [this, uT a]
 | .ref m, g, i, c, e, r => by
  simp only [aM]
  cases i <;> cases c <;> cases e.getD m false <;> rfl
 | .empty, _, _, _, _, _ | .bol, _, _, _, _, _ | .eol, _, _, _, _, _ | .bytes _, _, _, _, _, _ => rfl
def W4.out (l : List Nd) (w : W4) : Option (List Nd × Int × Bool × List Bool × Bool × Unit) := some (l, (w.1 : Int), w.2.1, w.2.2.1, w.2.2.2, ())
theorem Ig {l : List Nd} (hl : l.length < 1000000) : ∀ (t : Pt) (o m : Nat) (w : W4), At l o t -> bY t = true -> t.sz <= m -> w.1 + t.sz < 1000000 -> w.2.2.1.length = 10 ->
  kF m (t.top o, l, (w.1 : Int), w.2.1, w.2.2.1, w.2.2.2, ()) = W4.out l (aM t w) := by
 intro t
 have start : ∀ {t : Pt} {o m : Nat} {x : List Nd × Int × Bool × List Bool × Bool × Unit}, At l o t -> kF (m + 1) (t.top o, x) = cB m (kF m) (t.top o, x) := fun _ => rfl
 induction t with
 | empty =>
  intro o m w h hf hm hg he
  obtain ⟨m, rfl⟩ : ∃ k, m = k + 1 := ⟨m - 1, by simp only [Pt.sz] at hm; omega⟩
  rw [start h]; unfold cB; simp only
  rw [aA h.top.1, h.top.2]; rfl
 | bytes p =>
  intro o m w h hf hm hg he
  obtain ⟨m, rfl⟩ : ∃ k, m = k + 1 := ⟨m - 1, by simp only [Pt.sz] at hm; omega⟩
  rw [start h]; unfold cB; simp only
  rw [aA h.top.1, h.top.2]; rfl
 | bol =>
  intro o m w h hf hm hg he
  obtain ⟨m, rfl⟩ : ∃ k, m = k + 1 := ⟨m - 1, by simp only [Pt.sz] at hm; omega⟩
  rw [start h]; unfold cB; simp only
  rw [aA h.top.1, h.top.2]; rfl
 | eol =>
  intro o m w h hf hm hg he
  obtain ⟨m, rfl⟩ : ∃ k, m = k + 1 := ⟨m - 1, by simp only [Pt.sz] at hm; omega⟩
  rw [start h]; unfold cB; simp only
  rw [aA h.top.1, h.top.2]; rfl
 | ref k =>
  intro o m w h hf hm hg he
  obtain ⟨m, rfl⟩ : ∃ k, m = k + 1 := ⟨m - 1, by simp only [Pt.sz] at hm; omega⟩
  simp only [bY, Bool.and_eq_true, decide_eq_true_eq] at hf
  rw [start h]; unfold cB; simp only
  rw [aA h.top.1, h.top.2]
  simp only [Pt.nv, NV.node]
  rw [aB (by rfl), aB (by rfl), aB (by rfl), aB (by rfl), aF (by rfl), aA (jP (i := k) (n := 10) (by omega)), aA (by exact decide_eq_true (show k < 10 by omega))]
  simp only [aM, W4.out, Int.toNat_natCast]
  cases w.2.1 <;> rfl
 | cat a b iha ihb =>
  intro o m w h hf hm hg he
  obtain ⟨m, rfl⟩ : ∃ k, m = k + 1 := ⟨m - 1, by simp only [Pt.sz] at hm; omega⟩
  simp only [bY, Bool.and_eq_true] at hf
  simp only [Pt.sz] at hm hg
  rw [start h]; unfold cB; simp only
  rw [aA h.top.1, h.top.2]
  simp only [Pt.nv, NV.node]
  have hga := yM a w
  rw [aF (by rfl), aF (by rfl), iha o m w h.Vh.1 hf.1 (by omega) (by omega) he]
  simp only [W4.out, aH]
  rw [ihb (o + a.sz) m (aM a w) h.Vh.2 hf.2 (by omega) (by omega) (by rw [pO]; exact he)]
  rfl
 | alt a b iha ihb =>
  intro o m w h hf hm hg he
  obtain ⟨m, rfl⟩ : ∃ k, m = k + 1 := ⟨m - 1, by simp only [Pt.sz] at hm; omega⟩
  simp only [bY, Bool.and_eq_true] at hf
  simp only [Pt.sz] at hm hg
  rw [start h]; unfold cB; simp only
  rw [aA h.top.1, h.top.2]
  simp only [Pt.nv, NV.node]
  have hga := yM a w
  rw [aB (by rfl), aF (by rfl), iha o m w h.alt1.1 hf.1 (by omega) (by omega) he]
  simp only [W4.out, aH]
  rw [ihb (o + a.sz) m (aM a w) h.alt1.2 hf.2 (by omega) (by omega) (by rw [pO]; exact he)]
  rfl
 | times a lo hi iha =>
  intro o m w h hf hm hg he
  obtain ⟨m, rfl⟩ : ∃ k, m = k + 1 := ⟨m - 1, by simp only [Pt.sz] at hm; omega⟩
  simp only [bY, Bool.and_eq_true] at hf
  simp only [Pt.sz] at hm hg
  rw [start h]; unfold cB; simp only
  rw [aA h.top.1, h.top.2]
  simp only [Pt.nv, NV.node]
  rw [aB (by rfl), aB (by rfl), aF (by rfl), iha o m w h.zBt hf.1 (by omega) (by omega) he]
  rfl
 | group a k iha =>
  intro o m w h hf hm hg he
  obtain ⟨m, rfl⟩ : ∃ k, m = k + 1 := ⟨m - 1, by simp only [Pt.sz] at hm; omega⟩
  simp only [bY, Bool.and_eq_true, decide_eq_true_eq] at hf
  simp only [Pt.sz] at hm hg
  rw [start h]; unfold cB; simp only
  rw [aA h.top.1, h.top.2]
  simp only [Pt.nv, NV.node]
  rw [aB (by rfl), aB (by rfl), aB (by rfl), aF (by rfl), bT (by omega) (by omega), show (w.1 : Int) + 1 = ((w.1 + 1 : Nat) : Int) from rfl]
  have hI := iha o m (w.1 + 1, w.2.1 && decide (k = w.1 + 1), w.2.2.1, w.2.2.2) h.zBu hf.1 (by omega) (by simp only; omega) he
  simp only at hI
  have he2 : ((k : Int) == ((w.1 + 1 : Nat) : Int)) = decide (k = w.1 + 1) := by rw [Bool.eq_iff_iff, beq_iff_eq, decide_eq_true_eq]; omega
  have hlen := pO a (w.1 + 1, w.2.1 && decide (k = w.1 + 1), w.2.2.1, w.2.2.2)
  rw [he2]
  cases hb : w.2.1 <;> rw [hb] at hI hlen
  ·simp only [Bool.false_and] at hI hlen
   rw [aZ, hI]
   simp only [W4.out, aH]
   rw [aA (jP (i := k) (n := 10) (by omega)), aA (by exact decide_eq_true (show k < 10 by omega))]
   simp only [aM, hb, Bool.false_and, Int.toNat_natCast]
  ·simp only [Bool.true_and] at hI hlen
   rw [bM, hI]
   simp only [W4.out, aH]
   rw [aA (jP (i := k) (n := 10) (by omega)), aA (by exact decide_eq_true (show k < 10 by omega))]
   simp only [aM, hb, Bool.true_and, Int.toNat_natCast]
def w0 : W4 := (0, true, lX, false)
def uH (t : Pt) : Prop := t.sz <= 120 ∧ yL t.sz t ∧ (aM t w0).2.1 = true
theorem zHj {n : Nat} {l : List Nd} (hn : 200 <= n) (hw : ∀ nd ∈ l, Lv nd) :
  (∃ t, uH t ∧ l = t.enc 0 ∧ pW n l = some (((aM t w0).1 : Int), (aM t w0).2.2.2, true)) ∨ ((∀ t, uH t -> l ≠ t.enc 0) ∧ pW n l = some (0, false, false)) := by
 unfold pW
 simp only
 have hsz : ∀ t : Pt, l = t.enc 0 -> l.length = t.sz := fun t h => by rw [h, Pt.bL]
 by_cases h0 : l.length = 0
 ·rw [aF (by rw [h0]; rfl)]
  exact Or.inr ⟨fun t _ h => by have := hsz t h; have := t.eB; omega, rfl⟩
 rw [aB (by simp; intro h; rw [h] at h0; simp at h0)]
 by_cases h1 : l.length > 120
 ·rw [aF (by simp; omega)]
  exact Or.inr ⟨fun t ht h => by have := hsz t h; have := ht.1; omega, rfl⟩
 rw [aB (by simp; omega)]
 rcases zHi (n := n) (l := l) (by omega) (by omega) (by omega) hw with ⟨ho, t, ht, hk⟩ | ⟨ho, hno⟩
 ·rw [ho]
  simp only [aH, Bool.not_true, aZ]
  unfold xR
  simp only
  have hlt := hsz t ht
  have htp := t.eB
  rw [bT (by omega) (by omega), show (l.length : Int) - 1 = t.top 0 by unfold Pt.top; omega]
  have hA : At l 0 t := by have := At.self t; rw [<- ht] at this; exact this
  have hN := Ig (l := l) (by omega) t 0 n w0 hA hk.1 (by omega) (by simp only [w0]; omega) rfl
  have hw0 : kF n (t.top 0, l, 0, true, [false, false, false, false, false, false, false, false, false, false], false, ()) = W4.out l (aM t w0) := hN
  rw [hw0]
  simp only [W4.out, aH]
  cases hi : (aM t w0).2.1
  ·refine Or.inr ⟨fun u hu h => ?_, rfl⟩
   have hu2 := hu.2.2
   have hlu := hsz u h
   have hB : At l 0 u := by have := At.self u; rw [<- h] at this; exact this
   have htop : t.top 0 = u.top 0 := by unfold Pt.top; omega
   have hM := Ig (l := l) (by omega) u 0 n w0 hB hu.2.1.1 (by omega) (by simp only [w0]; omega) rfl
   rw [<- htop, hN] at hM
   simp only [W4.out, Option.some.injEq, Prod.mk.injEq] at hM
   have := hM.2.2.1
   rw [hi, hu2] at this; simp at this
  ·rw [hlt] at hk
   exact Or.inl ⟨t, ⟨by omega, hk, hi⟩, ht, rfl⟩
 ·rw [ho]
  simp only [aH, Bool.not_false, bM]
  exact Or.inr ⟨fun t ht h => by have := hno t h; rw [hsz t h] at this; exact this ht.2.1, by first | rfl | trivial⟩
theorem zJu {n : Nat} {l : List Nd} (hn : 200 <= n) (hw : ∀ nd ∈ l, Lv nd) :
  (∃ t, uH t ∧ l = t.enc 0 ∧ vM n l = some true) ∨ ((∀ t, uH t -> l ≠ t.enc 0) ∧ vM n l = some false) := by
 unfold vM
 simp only
 rcases zHj hn hw with ⟨t, h1, h2, h3⟩ | ⟨h1, h2⟩
 ·exact Or.inl ⟨t, h1, h2, by rw [h3]; rfl⟩
 ·exact Or.inr ⟨h1, by rw [h2]; rfl⟩
end Go.Dec
namespace Go.Dec
def Vk (t : Pt) (b : Nat) (en : List Bool) (b' : Nat) (en' : List Bool) : Prop := ∀ i rf, ∃ rf', aM t (b, i, en, rf) = (b', i, en', rf')
def zCc (ts : List Pt) (w : W4) : W4 := ts.foldl (fun w t => aM t w) w
def zTz (ts : List Pt) (b : Nat) (en : List Bool) (b' : Nat) (en' : List Bool) : Prop := ∀ i rf, ∃ rf', zCc ts (b, i, en, rf) = (b', i, en', rf')
theorem Cc {p : Nat -> Bool} {i : Nat} (hi : i < 256) (h : p i = true) : dS p = false := by
 cases he : dS p
 ·rfl
 ·have := oN he hi
  rw [h] at this; simp at this
theorem zEu {r : List UInt8} {p : Nat -> Bool} {k : Nat} (h : qH r = some (p, k)) : dS p = false := by
 unfold qH at h
 cases h1 : [91].isPrefixOf r <;> rw [h1] at h <;> simp only [cond_true, cond_false] at h
 ·simp at h
 ·cases h3 : uR (r.length + 1) true (fun _ => false) (r.drop (bif [94].isPrefixOf (r.drop 1) then 2 else 1)) with
  | none => rw [h3] at h; simp at h
  | some x =>
   obtain ⟨q, m⟩ := x
   rw [h3] at h
   simp only at h
   cases h4 : dS (bif [94].isPrefixOf (r.drop 1) then (fun j => !q j) else q) <;> rw [h4] at h <;> simp at h
   rw [<- h.1]; simpa using h4
theorem Aj (c : UInt8) : dS (vW c) = false := Cc c.toNat_lt (by simp [vW])
def Ez (t : Pt) : Prop := bY t = true ∧ mQ t = true ∧ lY t = true ∧ t.kind ≠ 4 ∧ t.kind ≠ 5
def Ce (t : Pt) : Prop := bY t = true ∧ mQ t = true ∧ lY t = true ∧ (t.kind = 1 ∨ t.kind = 7 ∨ t.kind = 8)
def zEv (t : Pt) : Prop := bY t = true ∧ mQ t = true ∧ lY t = true ∧ t.kind ≠ 5
theorem Ce.item {t : Pt} (h : Ce t) : Ez t := ⟨h.1, h.2.1, h.2.2.1, by rcases h.2.2.2 with h | h | h <;> omega, by rcases h.2.2.2 with h | h | h <;> omega⟩
def zHk (row : List UInt8 -> Nat -> List Bool -> Res (Option Pt)) : Prop := ∀ r b en t r' b' en', b <= 9 -> en.length = 10 -> row r b en = .ok (some t) r' b' en' -> zEv t ∧ Vk t b en b' en' ∧ b' <= 9 ∧ en'.length = 10
theorem zEw {p : Nat -> Bool} (h : dS p = false) (b : Nat) (en : List Bool) : Ce (.bytes p) ∧ Vk (.bytes p) b en b en := ⟨⟨by simp [bY, h], rfl, rfl, Or.inl rfl⟩, fun i rf => ⟨rf, rfl⟩⟩
theorem zJv {row : List UInt8 -> Nat -> List Bool -> Res (Option Pt)} {first : Bool} {r : List UInt8} {b : Nat} {en : List Bool} {t : Pt} {r' : List UInt8} {b' : Nat} {en' : List Bool}
  (hrow : zHk row) (hb : b <= 9) (he : en.length = 10) (h : eY row first r b en = .ok t r' b' en') : Ce t ∧ Vk t b en b' en' ∧ b' <= 9 ∧ en'.length = 10 := by
 have hone : ∀ {p : Nat -> Bool} {x : List UInt8}, dS p = false -> Res.ok (Pt.bytes p) x b en = .ok t r' b' en' -> Ce t ∧ Vk t b en b' en' ∧ b' <= 9 ∧ en'.length = 10 := by
  intro p x hp h
  simp only [Res.ok.injEq] at h
  obtain ⟨rfl, rfl, rfl, rfl⟩ := h
  exact ⟨(zEw hp b en).1, (zEw hp b en).2, hb, he⟩
 unfold eY at h
 cases r with
 | nil => simp at h
 | cons c r1 =>
  simp only at h
  cases h1 : c == 46 <;> rw [h1] at h <;> simp only [cond_true, cond_false] at h
  case true => exact hone (Cc (i := 0) (by omega) rfl) h
  cases h2 : c == 91 <;> rw [h2] at h <;> simp only [cond_true, cond_false] at h
  case true =>
   cases h3 : qH (c :: r1) with
   | none => rw [h3] at h; simp at h
   | some x => rw [h3] at h; exact hone (zEu h3) h
  cases h3 : c == 92 <;> rw [h3] at h <;> simp only [cond_true, cond_false] at h
  case false => exact hone (Aj c) h
  cases r1 with
  | nil => simp at h
  | cons d r2 =>
   simp only at h
   cases h4 : d == 40 <;> rw [h4] at h <;> simp only [cond_true, cond_false] at h
   case true =>
    cases h5 : b == 9 <;> rw [h5] at h <;> simp only [cond_true, cond_false] at h
    case true => simp at h
    have hb9 : b ≠ 9 := by simpa using h5
    cases ho : row r2 (b + 1) en with
    | er e k => rw [ho] at h; simp at h
    | ok t3 r3 b3 en3 =>
     rw [ho] at h
     cases t3 with
     | none => simp at h
     | some t3 =>
      simp only at h
      obtain ⟨g1, g2, g3, g4⟩ := hrow r2 (b + 1) en t3 r3 b3 en3 (by omega) he ho
      cases h6 : [92, 41].isPrefixOf r3 <;> rw [h6] at h <;> simp only [cond_true, cond_false, Res.ok.injEq] at h
      ·simp at h
      ·obtain ⟨rfl, rfl, rfl, rfl⟩ := h
       refine ⟨⟨?_, ?_, ?_, Or.inr (Or.inl rfl)⟩, ?_, g3, ?_⟩
       ·simp [bY, g1.1]; omega
       ·simp [mQ, g1.2.1]
       ·simp [lY, g1.2.2.1]
       ·intro i rf
        obtain ⟨rf', hrf⟩ := g2 i rf
        exact ⟨rf', by simp only [aM, decide_true, Bool.and_true]; rw [hrf]⟩
       ·rw [List.length_set]; exact g4
   cases h5 : decide (49 <= d.toNat) && decide (d.toNat <= 57) <;> rw [h5] at h <;> simp only [cond_true, cond_false] at h
   case true =>
    simp only [Bool.and_eq_true, decide_eq_true_eq] at h5
    cases h6 : en.getD (d.toNat - 48) false <;> rw [h6] at h <;> simp only [cond_true, cond_false, Res.ok.injEq] at h
    ·simp at h
    ·obtain ⟨rfl, rfl, rfl, rfl⟩ := h
     refine ⟨⟨by simp [bY]; omega, rfl, rfl, Or.inr (Or.inr rfl)⟩, fun i rf => ⟨true, ?_⟩, hb, he⟩
     simp only [aM, h6, Bool.and_true]
   cases h6 : d == 110 <;> rw [h6] at h <;> simp only [cond_true, cond_false] at h
   case true => exact hone (Aj 10) h
   cases h7 : nY.contains d <;> rw [h7] at h <;> simp only [cond_true, cond_false] at h
   case true => exact hone (Aj d) h
   cases h8 : d == 123 && first <;> rw [h8] at h <;> simp at h
theorem zOg {t : Pt} {lo hi : Int} {r r' : List UInt8} {b b' : Nat} {en en' : List Bool} {t' : Pt} (ht : Ce t) (hlo : iT lo hi = true) (h : uS t lo hi r b en = .ok t' r' b' en') : t' = .times t lo hi ∧ Ez t' ∧ b' = b ∧ en' = en := by
 unfold uS at h
 cases hc : [42].isPrefixOf r || [92, 123].isPrefixOf r <;> rw [hc] at h <;> simp at h
 obtain ⟨rfl, rfl, rfl, rfl⟩ := h
 refine ⟨rfl, ⟨by simp only [bY, ht.1, hlo]; rfl, ?_, by simp [lY, ht.2.2.1], by simp [Pt.kind], by simp [Pt.kind]⟩, rfl, rfl⟩
 simp only [mQ, ht.2.1, Bool.true_and, Bool.or_eq_true, decide_eq_true_eq]
 rcases ht.2.2.2 with h | h | h
 ·exact Or.inl (Or.inl h)
 ·exact Or.inl (Or.inr h)
 ·exact Or.inr h
theorem zHl {r : List UInt8} {lo hi : Int} {r2 : List UInt8} (h : qY r = some (lo, hi, r2)) : iT lo hi = true := by
 unfold qY at h
 cases hlo : jR r with
 | mk l1 r1 =>
  rw [hlo] at h
  cases l1 with
  | none => simp at h
  | some l1 =>
   simp only at h
   cases hc : [44].isPrefixOf r1 <;> rw [hc] at h <;> simp only [cond_true, cond_false] at h
   ·cases hb : [92, 125].isPrefixOf r1 && decide (l1 <= 255) && decide (1 <= l1) <;> rw [hb] at h <;> simp at h
    simp only [Bool.and_eq_true, decide_eq_true_eq] at hb
    obtain ⟨rfl, rfl, _⟩ := h
    simp [iT]; omega
   ·cases hhi : jR (r1.drop 1) with
    | mk h1 r3 =>
     rw [hhi] at h
     cases h1 with
     | none =>
      simp only at h
      cases hb : [92, 125].isPrefixOf r3 && decide (l1 <= 255) <;> rw [hb] at h <;> simp at h
      simp only [Bool.and_eq_true, decide_eq_true_eq] at hb
      obtain ⟨rfl, rfl, _⟩ := h
      simp [iT]; omega
     | some h1 =>
      simp only at h
      cases hb : [92, 125].isPrefixOf r3 && decide (l1 <= 255) && decide (h1 <= 255) && decide (l1 <= h1) && decide (1 <= h1) <;> rw [hb] at h <;> simp at h
      simp only [Bool.and_eq_true, decide_eq_true_eq] at hb
      obtain ⟨rfl, rfl, _⟩ := h
      simp [iT]; omega
theorem zEx {t : Pt} {r : List UInt8} {b : Nat} {en : List Bool} {t' : Pt} {r' : List UInt8} {b' : Nat} {en' : List Bool} (ht : Ce t) (h : kP t r b en = .ok t' r' b' en') :
  (t' = t ∨ ∃ lo hi, t' = .times t lo hi) ∧ Ez t' ∧ b' = b ∧ en' = en := by
 rw [Qh] at h
 cases h1 : [42].isPrefixOf r <;> rw [h1] at h <;> simp only [cond_true, cond_false] at h
 case true =>
  have := zOg ht (by decide) h
  exact ⟨Or.inr ⟨_, _, this.1⟩, this.2⟩
 cases h2 : [92, 123].isPrefixOf r <;> rw [h2] at h <;> simp only [cond_true, cond_false] at h
 case false =>
  simp only [Res.ok.injEq] at h
  obtain ⟨rfl, rfl, rfl, rfl⟩ := h
  exact ⟨Or.inl rfl, ht.item, rfl, rfl⟩
 cases ho : qY (r.drop 2) with
 | none => rw [ho] at h; simp at h
 | some x =>
  obtain ⟨lo, hi, r2⟩ := x
  rw [ho] at h
  have := zOg ht (zHl ho) h
  exact ⟨Or.inr ⟨_, _, this.1⟩, this.2⟩
theorem zHm {t t' : Pt} {b b' : Nat} {en en' : List Bool} (ht : t' = t ∨ ∃ lo hi, t' = .times t lo hi) (h : Vk t b en b' en') : Vk t' b en b' en' := by
 rcases ht with rfl | ⟨lo, hi, rfl⟩
 ·exact h
 ·exact fun i rf => h i rf
theorem zPo {row : List UInt8 -> Nat -> List Bool -> Res (Option Pt)} (hrow : zHk row) : ∀ (f : Nat) (first : Bool) (r : List UInt8) (b : Nat) (en : List Bool) (acc ts : List Pt) (r' : List UInt8) (b' : Nat) (en' : List Bool), b <= 9 -> en.length = 10 -> eD row f first r b en acc = .ok ts r' b' en' ->
  ∃ new, ts = acc ++ new ∧ (∀ t ∈ new, Ez t) ∧ zTz new b en b' en' ∧ b' <= 9 ∧ en'.length = 10 := by
 intro f
 induction f with
 | zero => intro first r b en acc ts r' b' en' _ _ h; simp [eD] at h
 | succ f ih =>
  intro first r b en acc ts r' b' en' hb he h
  unfold eD at h
  cases hc : dQ r <;> rw [hc] at h <;> simp only [cond_true, cond_false, Res.ok.injEq] at h
  case true =>
   obtain ⟨rfl, rfl, rfl, rfl⟩ := h
   exact ⟨[], by simp, by simp, fun i rf => ⟨rf, rfl⟩, hb, he⟩
  cases hd : [36].isPrefixOf r && dQ (r.drop 1) <;> rw [hd] at h <;> simp only [cond_true, cond_false, Res.ok.injEq] at h
  case true =>
   obtain ⟨rfl, rfl, rfl, rfl⟩ := h
   exact ⟨[.eol], rfl, by intro t ht; simp only [List.mem_singleton] at ht; subst ht; exact ⟨rfl, rfl, rfl, by simp [Pt.kind], by simp [Pt.kind]⟩, fun i rf => ⟨rf, rfl⟩, hb, he⟩
  cases ho : eY row first r b en with
  | er e k => rw [ho] at h; simp at h
  | ok t r1 b1 en1 =>
   rw [ho] at h
   simp only at h
   obtain ⟨a1, a2, a3, a4⟩ := zJv hrow hb he ho
   cases ho2 : kP t r1 b1 en1 with
   | er e k => rw [ho2] at h; simp at h
   | ok t2 r2 b2 en2 =>
    rw [ho2] at h
    simp only at h
    obtain ⟨c1, c2, rfl, rfl⟩ := zEx a1 ho2
    obtain ⟨new, d1, d2, d3, d4, d5⟩ := ih _ _ _ _ _ _ _ _ _ a3 a4 h
    refine ⟨t2 :: new, by rw [d1]; simp, ?_, ?_, d4, d5⟩
    ·intro u hu
     rcases List.mem_cons.1 hu with rfl | hu
     ·exact c2
     ·exact d2 u hu
    ·intro i rf
     obtain ⟨rf1, h1⟩ := zHm c1 a2 i rf
     obtain ⟨rf2, h2⟩ := d3 i rf1
     exact ⟨rf2, by simp only [zCc, List.foldl_cons] at h2 ⊢; rw [h1]; exact h2⟩
theorem zCd : ∀ (ts : List Pt) (t : Pt) (w : W4), fE ts = some t -> aM t w = zCc ts w
 | [], t, w, h => by simp [fE] at h
 | u :: ts, t, w, h => by
  unfold fE at h
  cases hc : fE ts with
  | none =>
   rw [hc] at h
   simp only [Option.some.injEq] at h
   subst h
   cases ts with
   | nil => rfl
   | cons v ts =>
    unfold fE at hc
    cases h2 : fE ts <;> rw [h2] at hc <;> simp at hc
  | some v =>
   rw [hc] at h
   simp only [Option.some.injEq] at h
   subst h
   simp only [aM, zCc, List.foldl_cons]
   exact zCd ts v (aM u w) hc
theorem zEy : ∀ (ts : List Pt) (t : Pt), (∀ u ∈ ts, Ez u) -> fE ts = some t -> zEv t
 | [], t, _, h => by simp [fE] at h
 | u :: ts, t, hu, h => by
  unfold fE at h
  have hk := hu u (by simp)
  cases hc : fE ts with
  | none =>
   rw [hc] at h
   simp only [Option.some.injEq] at h
   subst h
   exact ⟨hk.1, hk.2.1, hk.2.2.1, hk.2.2.2.2⟩
  | some v =>
   rw [hc] at h
   simp only [Option.some.injEq] at h
   subst h
   have hv := zEy ts v (fun x hx => hu x (by simp [hx])) hc
   exact ⟨by simp [bY, hk.1, hv.1], by simp [mQ, hk.2.1, hv.2.1, hk.2.2.2.1, hk.2.2.2.2, hv.2.2.2], by simp [lY, hk.2.2.1, hv.2.2.1], by simp [Pt.kind]⟩
theorem zOh : ∀ f : Nat, zHk (dM f) := by
 intro f
 induction f with
 | zero => intro r b en t r' b' en' _ _ h; simp [dM] at h
 | succ f ih =>
  intro r b en t r' b' en' hb he h
  unfold dM at h
  simp only at h
  cases ho : eD (dM f) ((bif [94].isPrefixOf r then r.drop 1 else r).length + 1) true (bif [94].isPrefixOf r then r.drop 1 else r) b en (bif [94].isPrefixOf r then [Pt.bol] else []) with
  | er e k => rw [ho] at h; simp at h
  | ok ts r2 b2 en2 =>
   rw [ho] at h
   simp only [Res.ok.injEq] at h
   obtain ⟨new, d1, d2, d3, d4, d5⟩ := zPo ih _ _ _ _ _ _ _ _ _ _ hb he ho
   obtain ⟨h1, rfl, rfl, rfl⟩ := h
   have hok : ∀ u ∈ ts, Ez u := by
    rw [d1]
    intro u hu
    rcases List.mem_append.1 hu with hu | hu
    ·cases h94 : [94].isPrefixOf r <;> rw [h94] at hu <;> simp at hu
     subst hu
     exact ⟨rfl, rfl, rfl, by simp [Pt.kind], by simp [Pt.kind]⟩
    ·exact d2 u hu
   refine ⟨zEy ts t hok h1, ?_, d4, d5⟩
   intro i rf
   obtain ⟨rf', hrf⟩ := d3 i rf
   refine ⟨rf', ?_⟩
   rw [zCd ts t _ h1, d1]
   simp only [zCc, List.foldl_append] at hrf ⊢
   cases h94 : [94].isPrefixOf r
   ·exact hrf
   ·exact hrf
theorem tJ {s : List UInt8} {t : Pt} (h : jS s = .inl t) : uH t := by
 cases s with
 | nil => simp only [jS, Sum.inl.injEq] at h; subst h; exact ⟨by simp [Pt.sz], ⟨rfl, rfl, fun h => by simp [Pt.sz] at h⟩, rfl⟩
 | cons c s0 =>
  have hps : jS (c :: s0) = match dM 11 (c :: s0) 0 lX with
   | .er e k => .inr (e, (c :: s0).length - k)
   | .ok t r _ _ =>
    match r with
    | [] => match t with
     | none => .inr (41, (c :: s0).length)
     | some t => bif decide (t.sz > 120) then .inr (2, 0) else .inl t
    | _ => .inr (41, (c :: s0).length - r.length) := rfl
  rw [hps] at h
  cases ho : dM 11 (c :: s0) 0 lX with
  | er e k => rw [ho] at h; simp at h
  | ok t2 r b2 en2 =>
   rw [ho] at h
   simp only at h
   cases r with
   | cons c2 r2 => simp at h
   | nil =>
    cases t2 with
    | none => simp at h
    | some t2 =>
     simp only at h
     obtain ⟨g1, g2, _⟩ := zOh 11 _ 0 lX t2 _ _ _ (by omega) rfl ho
     cases Lu : decide (t2.sz > 120) <;> rw [Lu] at h <;> simp only [cond_true, cond_false, Sum.inl.injEq, reduceCtorEq] at h
     subst h
     simp only [gt_iff_lt, decide_eq_false_iff_not] at Lu
     obtain ⟨rf', hrf⟩ := g2 true false
     exact ⟨by omega, ⟨g1.1, g1.2.1, fun _ => g1.2.2.1⟩, by simp only [w0]; rw [hrf]⟩
theorem zRy (t : Pt) (o : Nat) : ∀ nd ∈ t.enc o, Lv nd := by
 intro nd h
 rw [<- uZ] at h
 obtain ⟨v, _, rfl⟩ := List.mem_map.1 h
 cases v with
 | bytes p => exact ⟨p, rfl⟩
 | _ => exact ⟨fun _ => false, mR.symm⟩
theorem zEz {n : Nat} {t : Pt} (hn : 200 <= n) (h : uH t) : vM n (t.enc 0) = some true := by
 rcases zJu (n := n) (l := t.enc 0) hn (zRy t 0) with ⟨_, _, _, h3⟩ | ⟨h1, _⟩
 ·exact h3
 ·exact absurd rfl (h1 t h)
end Go.Dec
