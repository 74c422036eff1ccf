/- The fourth part: what a symbolic run knows of the program's types, and parts of a row by their places. No statement is proved here. -/
import Derived.Test.YtpehkjgbhnegmaaDecC
namespace Go.Dec

/-! ### Parts by places -/

def splitLs : List L → Nat → Option (List L × List L)
  | ls, 0 => some ([], ls)
  | [], _ + 1 => none
  | l :: r, n + 1 => if l.size ≤ n + 1 then (splitLs r (n + 1 - l.size)).map fun p => (l :: p.1, p.2) else none

section split
variable {β : Nat → Pl} {w : World} {N : Nat → Prop}

theorem splitLs_rel : ∀ {ls : List L} {n : Nat} {a b : List L} {cs : List Value}, splitLs ls n = some (a, b) → LsRel β w N ls cs →
    LsRel β w N a (cs.take n) ∧ LsRel β w N b (cs.drop n) ∧ n ≤ cs.length
  | ls, 0, a, b, cs, h, hr => by
    have : splitLs ls 0 = some ([], ls) := by cases ls <;> rfl
    rw [this] at h
    simp only [Option.some.injEq, Prod.mk.injEq] at h
    obtain ⟨rfl, rfl⟩ := h
    simpa [LsRel] using hr
  | [], _ + 1, _, _, _, h, _ => by simp [splitLs] at h
  | l :: r, n + 1, a, b, cs, h, hr => by
    simp only [splitLs] at h
    split at h
    · rename_i hle
      obtain ⟨c1, c2, rfl, h1, h2⟩ := hr
      cases hs : splitLs r (n + 1 - l.size) with
      | none => rw [hs] at h; cases h
      | some p =>
        rw [hs] at h
        simp only [Option.map_some, Option.some.injEq, Prod.mk.injEq] at h
        obtain ⟨rfl, rfl⟩ := h
        obtain ⟨g1, g2, g3⟩ := splitLs_rel (a := p.1) (b := p.2) hs h2
        have hl := h1.length
        refine ⟨?_, ?_, ?_⟩
        · rw [List.take_append, hl, List.take_of_length_le (by omega)]
          exact ⟨c1, _, rfl, h1, g1⟩
        · rw [List.drop_append, hl, List.drop_of_length_le (by omega), List.nil_append]
          exact g2
        · rw [List.length_append]; omega
    · cases h

def takeLs (ls : List L) (off size : Nat) : Option (List L) :=
  match splitLs ls off with
  | some (_, b) => (splitLs b size).map (·.1)
  | none => none

theorem takeLs_rel {ls c : List L} {off size : Nat} {cs : List Value} (h : takeLs ls off size = some c) (hr : LsRel β w N ls cs) :
    LsRel β w N c ((cs.drop off).take size) ∧ off + size ≤ cs.length := by
  unfold takeLs at h
  split at h
  · rename_i a b hs
    cases ht : splitLs b size with
    | none => rw [ht] at h; cases h
    | some p =>
      rw [ht] at h
      simp only [Option.map_some, Option.some.injEq] at h
      subst h
      obtain ⟨_, g2, g3⟩ := splitLs_rel hs hr
      obtain ⟨k1, _, k3⟩ := splitLs_rel (a := p.1) (b := p.2) ht g2
      rw [List.length_drop] at k3
      exact ⟨k1, by omega⟩
  · cases h

def setLs (ls : List L) (off : Nat) (new : List L) : Option (List L) :=
  match splitLs ls off with
  | some (a, b) => (splitLs b (sizes new)).map fun p => a ++ (new ++ p.2)
  | none => none

theorem setLs_rel {ls new ls' : List L} {off : Nat} {cs ds : List Value} (h : setLs ls off new = some ls') (hr : LsRel β w N ls cs) (hd : LsRel β w N new ds) :
    LsRel β w N ls' (cs.take off ++ (ds ++ cs.drop (off + ds.length))) ∧ off + ds.length ≤ cs.length := by
  unfold setLs at h
  split at h
  · rename_i a b hs
    cases ht : splitLs b (sizes new) with
    | none => rw [ht] at h; cases h
    | some p =>
      rw [ht] at h
      simp only [Option.map_some, Option.some.injEq] at h
      subst h
      obtain ⟨g1, g2, g3⟩ := splitLs_rel hs hr
      obtain ⟨_, k2, k3⟩ := splitLs_rel (a := p.1) (b := p.2) ht g2
      have hl := hd.length
      rw [List.length_drop] at k3
      rw [List.drop_drop] at k2
      refine ⟨g1.append (hd.append ?_), by omega⟩
      rw [hl]
      exact k2
  · cases h
end split

/-! ### Types -/

inductive TK where
  | bool | int (k : IntKind) | str | slice (e : TypeId) | arr (n : Nat) (e : TypeId) | struct (fs : List (Nat × TypeId)) | ptr (e : TypeId) | func | iface (empty : Bool) | map (k e : TypeId) | other

def TK.of : TypeDesc → TK
  | .bool => .bool
  | .int k => .int k
  | .string => .str
  | .slice e => .slice e
  | .array n e => .arr n e
  | .struct fs => .struct (fs.toList.map fun f => (f.offset, f.type))
  | .pointer e => .ptr e
  | .func .. => .func
  | .interface ms => .iface ms.isEmpty
  | .map k e => .map k e
  | _ => .other

def TK.isAgg : TK → Bool
  | .arr .. | .struct _ => true
  | _ => false

structure TI where
  k : TK
  size : Nat
  bytes : Nat
  zls : List L
  ty : Option Ty
  /-- a struct or array whose values may be held against each other -/
  eqs : Bool

def tyOf (P : Program) : Nat → TypeId → Option Ty
  | 0, _ => none
  | n + 1, t =>
    match P.underlying t with
    | some .bool => some .bool
    | some (.int k) => some (.int k)
    | some .string => some .str
    | some (.slice e) => (tyOf P n e).map .slice
    | some (.array k e) => (tyOf P n e).map (.arr k)
    | some (.struct fs) => fs.toList.foldr (fun f r => match tyOf P n f.type, r with | some a, some b => some (.pair a b) | _, _ => none) (some .unit)
    | some (.interface _) => some .err
    | some (.func ..) => some .opq
    | _ => none

/-- A zero value's parts. -/
def zlsOf (P : Program) : Nat → TypeId → List Value → Option (List L × List Value)
  | 0, _, _ => none
  | n + 1, t, cs =>
    match P.underlying t with
    | some (.struct fs) => fs.toList.foldl (fun r f => match r with | some (ls, cs) => (zlsOf P n f.type cs).map fun p => (ls ++ p.1, p.2) | none => none) (some ([], cs))
    | some (.array k e) =>
      match tyOf P n e, (List.range k).foldl (fun r _ => match r with | some (ls, cs) => (zlsOf P n e cs).map fun p => (ls ++ [p.1], p.2) | none => none) (some ([], cs)) with
      | some te, some (lss, cs) =>
        match lss.foldr (fun ls r => match implode te ls, r with | some (x, []), some xs => some (x :: xs) | _, _ => none) (some ([] : List te.den)) with
        | some xs => if xs.length = k then some ([.val (.arr k te) xs], cs) else none
        | none => none
      | _, _ => none
    | some (.slice _) =>
      match cs with
      | .slice none 0 0 :: cs => some ([.nils], cs)
      | _ => none
    | _ => match cs with
      | c :: cs => if c.oneCell' then some ([constL c], cs) else none
      | [] => none

def zOK (ls : List L) (cs : List Value) : Prop := ∀ (β : Nat → Pl) (w : World) (N : Nat → Prop), LsRel β w N ls cs

theorem zOK.append {a b : List L} {c d : List Value} (h : zOK a c) (h' : zOK b d) : zOK (a ++ b) (c ++ d) := fun β w N => (h β w N).append (h' β w N)

theorem zlsOf_struct {P : Program} {n : Nat} (ih : ∀ t cs ls cs', zlsOf P n t cs = some (ls, cs') → ∃ c1, cs = c1 ++ cs' ∧ zOK ls c1) : ∀ (fs : List Field) (ls0 : List L) (cs0 ca : List Value) (ls : List L) (cs' : List Value),
    zOK ls0 ca → fs.foldl (fun r f => match r with | some (ls, cs) => (zlsOf P n f.type cs).map fun p => (ls ++ p.1, p.2) | none => none) (some (ls0, cs0)) = some (ls, cs') →
    ∃ c1, cs0 = c1 ++ cs' ∧ zOK ls (ca ++ c1)
  | [], ls0, cs0, ca, ls, cs', h0, h => by
    simp only [List.foldl_nil, Option.some.injEq, Prod.mk.injEq] at h
    obtain ⟨rfl, rfl⟩ := h
    exact ⟨[], rfl, by simpa using h0⟩
  | f :: fs, ls0, cs0, ca, ls, cs', h0, h => by
    simp only [List.foldl_cons] at h
    cases hz : zlsOf P n f.type cs0 with
    | none =>
      rw [hz] at h
      simp only [Option.map_none] at h
      have : ∀ fs : List Field, fs.foldl (fun (r : Option (List L × List Value)) f => match r with | some (ls, cs) => (zlsOf P n f.type cs).map fun p => (ls ++ p.1, p.2) | none => none) none = none := by
        intro fs; induction fs with
        | nil => rfl
        | cons f fs ih => simpa using ih
      rw [this] at h; cases h
    | some p =>
      rw [hz] at h
      simp only [Option.map_some] at h
      obtain ⟨c1, e, hz1⟩ := ih _ _ p.1 p.2 hz
      obtain ⟨c2, e2, hz2⟩ := zlsOf_struct ih fs (ls0 ++ p.1) p.2 (ca ++ c1) ls cs' (h0.append hz1) h
      exact ⟨c1 ++ c2, by rw [e, e2, List.append_assoc], by rwa [List.append_assoc] at hz2⟩

theorem zlsOf_arr {P : Program} {n : Nat} {e : TypeId} (ih : ∀ t cs ls cs', zlsOf P n t cs = some (ls, cs') → ∃ c1, cs = c1 ++ cs' ∧ zOK ls c1) : ∀ (k : List Nat) (ls0 : List (List L)) (cs0 : List Value) (css0 : List (List Value)) (lss : List (List L)) (cs' : List Value),
    All2 zOK ls0 css0 → k.foldl (fun r _ => match r with | some (ls, cs) => (zlsOf P n e cs).map fun p => (ls ++ [p.1], p.2) | none => none) (some (ls0, cs0)) = some (lss, cs') →
    ∃ css, cs0 = css.flatten ++ cs' ∧ All2 zOK lss (css0 ++ css)
  | [], ls0, cs0, css0, lss, cs', h0, h => by
    simp only [List.foldl_nil, Option.some.injEq, Prod.mk.injEq] at h
    obtain ⟨rfl, rfl⟩ := h
    exact ⟨[], rfl, by simpa using h0⟩
  | k0 :: k, ls0, cs0, css0, lss, cs', h0, h => by
    simp only [List.foldl_cons] at h
    cases hz : zlsOf P n e cs0 with
    | none =>
      rw [hz] at h
      simp only [Option.map_none] at h
      have : ∀ k : List Nat, k.foldl (fun (r : Option (List (List L) × List Value)) _ => match r with | some (ls, cs) => (zlsOf P n e cs).map fun p => (ls ++ [p.1], p.2) | none => none) none = none := by
        intro k; induction k with
        | nil => rfl
        | cons f fs ih => simpa using ih
      rw [this] at h; cases h
    | some p =>
      rw [hz] at h
      simp only [Option.map_some] at h
      obtain ⟨c1, e1, hz1⟩ := ih _ _ p.1 p.2 hz
      obtain ⟨css, e2, hz2⟩ := zlsOf_arr ih k (ls0 ++ [p.1]) p.2 (css0 ++ [c1]) lss cs' (h0.append ⟨hz1, trivial⟩) h
      exact ⟨c1 :: css, by rw [e1, e2]; simp, by simpa using hz2⟩

theorem implode_all {te : Ty} : ∀ (lss : List (List L)) (css : List (List Value)) (xs : List te.den), All2 zOK lss css →
    lss.foldr (fun ls r => match implode te ls, r with | some (x, []), some xs => some (x :: xs) | _, _ => none) (some ([] : List te.den)) = some xs →
    ∀ (w : World) (N : Nat → Prop), All2 (fun x c => te.Rel w N x c) xs css
  | [], [], xs, _, h, w, N => by simp at h; subst h; trivial
  | ls :: lss, cs :: css, xs, hz, h, w, N => by
    simp only [List.foldr_cons] at h
    split at h
    · rename_i _ x0 xs0 hi hf
      simp only [Option.some.injEq] at h
      subst h
      obtain ⟨c1, c2, e, h1, h2⟩ := implode_rel (β := fun _ => ⟨false, false, 0, none, 0, 0, 0⟩) (w := w) (N := N) hi (hz.1 _ _ _)
      simp only [LsRel] at h2
      subst h2
      rw [List.append_nil] at e
      subst e
      exact ⟨h1, implode_all lss css xs0 hz.2 hf w N⟩
    · cases h

theorem zlsOf_ok {P : Program} : ∀ (n : Nat) (t : TypeId) (cs : List Value) (ls : List L) (cs' : List Value), zlsOf P n t cs = some (ls, cs') → ∃ c1, cs = c1 ++ cs' ∧ zOK ls c1
  | 0, _, _, _, _, h => by simp [zlsOf] at h
  | n + 1, t, cs, ls, cs', h => by
    simp only [zlsOf] at h
    split at h
    · rename_i fs hu
      obtain ⟨c1, e, hz⟩ := zlsOf_struct (zlsOf_ok n) fs.toList [] cs [] ls cs' (fun _ _ _ => rfl) h
      exact ⟨c1, e, by simpa using hz⟩
    · rename_i k e hu
      split at h
      · rename_i _ te lss cs1 hte hf
        split at h
        · rename_i xs hxs
          split at h
          · rename_i hlen
            simp only [Option.some.injEq, Prod.mk.injEq] at h
            obtain ⟨rfl, rfl⟩ := h
            obtain ⟨css, e1, hz⟩ := zlsOf_arr (zlsOf_ok n) (List.range k) [] cs [] lss cs1 trivial hf
            refine ⟨css.flatten, e1, fun β w N => ⟨_, [], (List.append_nil _).symm, ?_, rfl⟩⟩
            simp only [L.Rel, Ty.Rel]
            exact ⟨hlen, css, rfl, implode_all lss css xs (by simpa using hz) hxs w N⟩
          · cases h
        · cases h
      · cases h
    · split at h
      · simp only [Option.some.injEq, Prod.mk.injEq] at h
        obtain ⟨rfl, rfl⟩ := h
        exact ⟨[.slice none 0 0], rfl, fun β w N => LsRel.single (by simp only [L.Rel])⟩
      · cases h
    · split at h
      · rename_i c cs1
        split at h
        · rename_i ho
          simp only [Option.some.injEq, Prod.mk.injEq] at h
          obtain ⟨rfl, rfl⟩ := h
          exact ⟨[c], rfl, fun β w N => LsRel.single (constL_rel c ho)⟩
        · cases h
      · cases h

/-- Values of this type may be held against each other, field by field. -/
def eqF (P : Program) (g : TypeId → Bool) (h : TypeId → Option Ty) : Nat → List Field → Bool
  | _, [] => true
  | off, f :: fs => f.offset == off && !(f.name == "_") && g f.type && (match h f.type with | some a => a.size == P.cellsOf f.type | none => false) && eqF P g h (off + P.cellsOf f.type) fs

def eqsOf (P : Program) : Nat → TypeId → Bool
  | 0, _ => false
  | n + 1, t =>
    match P.underlying t with
    | some .bool | some (.int _) | some .string => true
    | some (.struct fs) => !P.stoodInHeld t && eqF P (eqsOf P n) (tyOf P n) 0 fs.toList
    | some (.array _ e) => eqsOf P n e && (match tyOf P n e with | some a => a.size == P.cellsOf e | none => false)
    | _ => false

def isAggV : Value → Bool
  | .agg _ => true
  | _ => false

def mkTI (P : Program) (t : TypeId) : Option TI :=
  match P.info? t, P.underlying t with
  | some i, some d =>
    match i.zero with
    | some z =>
      match zlsOf P 12 t z.cells.toList with
      | some (ls, []) =>
        if (TK.of d).isAgg == isAggV z && z.cells.size == i.size then
          some { k := TK.of d, size := i.size, bytes := i.bytes, zls := ls, ty := tyOf P 12 t, eqs := (TK.of d).isAgg && (!P.eqGuardType P.depth t && eqsOf P 12 t) }
        else none
      | _ => none
    | none => none
  | _, _ => none

structure TIOK (P : Program) (t : TypeId) (ti : TI) : Prop where
  i : ∃ (i : TypeInfo) (z : Value), P.info? t = some i ∧ i.size = ti.size ∧ i.bytes = ti.bytes ∧ i.zero = some z ∧ zOK ti.zls z.cells.toList ∧ z.cells.size = i.size ∧ ti.k.isAgg = isAggV z
  und : ∃ d, P.underlying t = some d ∧ TK.of d = ti.k
  ty : tyOf P 12 t = ti.ty
  eqs : ti.eqs = true → P.eqGuardType P.depth t = false ∧ eqsOf P 12 t = true

theorem mkTI_ok {P : Program} {t : TypeId} {ti : TI} (h : mkTI P t = some ti) : TIOK P t ti := by
  unfold mkTI at h
  split at h
  · rename_i i d hi hd
    split at h
    · rename_i z hz
      split at h
      · rename_i ls hls
        split at h
        · rename_i hc
          simp only [Option.some.injEq] at h
          subst h
          rw [Bool.and_eq_true] at hc
          obtain ⟨c1, e, hok⟩ := zlsOf_ok _ _ _ _ _ hls
          rw [List.append_nil] at e
          refine ⟨⟨i, z, hi, rfl, rfl, hz, ?_, by simpa using hc.2, by simpa using hc.1⟩, ⟨d, hd, rfl⟩, rfl, fun h => by simp at h; exact h.2⟩
          rw [e]; exact hok
        · cases h
      · cases h
    · cases h
  · cases h

/-- The types that a run knows. -/
abbrev Tab := List (TypeId × TI)

def Tab.get : Tab → TypeId → Option TI
  | [], _ => none
  | p :: r, t => if Nat.beq p.1 t then some p.2 else Tab.get r t

def TabOK (P : Program) (T : Tab) : Prop := ∀ t ti, T.get t = some ti → TIOK P t ti

theorem tabOK_of {P : Program} : ∀ {T : Tab}, (T.map fun p => mkTI P p.1) = T.map (fun p => some p.2) → TabOK P T
  | [], _, _, _, h => by simp [Tab.get] at h
  | p :: r, h, t, ti, ht => by
    simp only [List.map_cons, List.cons.injEq] at h
    simp only [Tab.get] at ht
    split at ht
    · rename_i hb
      have : p.1 = t := Nat.eq_of_beq_eq_true hb
      subst this
      simp only [Option.some.injEq] at ht
      subst ht
      exact mkTI_ok h.1
    · exact tabOK_of h.2 t ti ht

end Go.Dec
