/- Part of a proof over this seat: a library of my own, and what it says of this seat. No statement is proved here. -/
import Derived.Test.YtlimifngdjkogaaGreatDoorPartAA
import Derived.Laws.Cells
import Derived.Laws.Slices
namespace Go.Dec
def eU : List L -> Nat -> Option (List L × List L)
 | ls, 0 => some ([], ls)
 | [], _ + 1 => none
 | l :: r, n + 1 => if l.size <= n + 1 then (eU r (n + 1 - l.size)).map fun p => (l :: p.1, p.2) else none
section split
variable {β : Nat -> Pl} {w : World} {N : Nat -> Nat -> Prop}
theorem gU : ∀ {ls : List L} {n : Nat} {a b : List L} {cs : List Value}, eU ls n = some (a, b) -> aC β w N ls cs ->
  aC β w N a (cs.take n) ∧ aC β w N b (cs.drop n) ∧ n <= cs.length
 | ls, 0, a, b, cs, h, hr => by
  have : eU ls 0 = some ([], ls) := by cases ls <;> rfl
  rw [this] at h
  simp only [Option.some.injEq, Prod.mk.injEq] at h
  obtain ⟨rfl, rfl⟩ := h
  simpa [aC] using hr
 | [], _ + 1, _, _, _, h, _ => by simp [eU] at h
 | l :: r, n + 1, a, b, cs, h, hr => by
  simp only [eU] at h
  split at h
  ·rename_i hle
   obtain ⟨c1, c2, rfl, h1, h2⟩ := hr
   cases hs : eU r (n + 1 - l.size) with
   | none => rw [hs] at h; cases h
   | some p =>
    rw [hs] at h
    simp only [Option.map_some, Option.some.injEq, Prod.mk.injEq] at h
    obtain ⟨rfl, rfl⟩ := h
    obtain ⟨g1, g2, g3⟩ := gU (a := p.1) (b := p.2) hs h2
    have hl := h1.length
    refine ⟨?_, ?_, ?_⟩
    ·rw [List.take_append, hl, List.take_of_length_le (by omega)]
     exact ⟨c1, _, rfl, h1, g1⟩
    ·rw [List.drop_append, hl, List.drop_of_length_le (by omega), List.nil_append]
     exact g2
    ·rw [List.length_append]; omega
  ·cases h
def oG (ls : List L) (off size : Nat) : Option (List L) :=
 match eU ls off with
 | some (_, b) => (eU b size).map (·.1)
 | none => none
theorem jQ {ls c : List L} {off size : Nat} {cs : List Value} (h : oG ls off size = some c) (hr : aC β w N ls cs) :
  aC β w N c ((cs.drop off).take size) ∧ off + size <= cs.length := by
 unfold oG at h
 split at h
 ·rename_i a b hs
  cases ht : eU b size with
  | none => rw [ht] at h; cases h
  | some p =>
   rw [ht] at h
   simp only [Option.map_some, Option.some.injEq] at h
   subst h
   obtain ⟨_, g2, g3⟩ := gU hs hr
   obtain ⟨k1, _, k3⟩ := gU (a := p.1) (b := p.2) ht g2
   rw [List.length_drop] at k3
   exact ⟨k1, by omega⟩
 ·cases h
def pX (ls : List L) (off : Nat) (new : List L) : Option (List L) :=
 match eU ls off with
 | some (a, b) => (eU b (sizes new)).map fun p => a ++ (new ++ p.2)
 | none => none
theorem yU {ls new ls' : List L} {off : Nat} {cs ds : List Value} (h : pX ls off new = some ls') (hr : aC β w N ls cs) (hd : aC β w N new ds) :
  aC β w N ls' (cs.take off ++ (ds ++ cs.drop (off + ds.length))) ∧ off + ds.length <= cs.length := by
 unfold pX at h
 split at h
 ·rename_i a b hs
  cases ht : eU b (sizes new) with
  | none => rw [ht] at h; cases h
  | some p =>
   rw [ht] at h
   simp only [Option.map_some, Option.some.injEq] at h
   subst h
   obtain ⟨g1, g2, g3⟩ := gU hs hr
   obtain ⟨_, k2, k3⟩ := gU (a := p.1) (b := p.2) ht g2
   have hl := hd.length
   rw [List.length_drop] at k3
   rw [List.drop_drop] at k2
   refine ⟨g1.append (hd.append ?_), by omega⟩
   rw [hl]
   exact k2
 ·cases h
end split
inductive TK where
 | bool | int (k : IntKind) | str | slice (e : TypeId) | arr (n : Nat) (e : TypeId) | struct (fs : List (Nat × TypeId)) | ptr (e : TypeId) | func | iface (empty : Bool) | map (k e : TypeId) | other
def TK.of : TypeDesc -> TK
 | .bool => .bool
 | .int k => .int k
 | .string => .str
 | .slice e => .slice e
 | .array n e => .arr n e
 | .struct fs => .struct (fs.toList.map fun f => (f.offset, f.type))
 | .pointer e => .ptr e
 | .func .. => .func
 | .interface ms => .iface ms.isEmpty
 | .map k e => .map k e
 | _ => .other
def TK.isAgg : TK -> Bool
 | .arr .. | .struct _ => true
 | _ => false
structure TI where
 k : TK
 size : Nat
 bytes : Nat
 zls : List L
 ty : Option Ty
 eqs : Bool
def bB (P : Program) : Nat -> TypeId -> Option Ty
 | 0, _ => none
 | n + 1, t =>
  match P.underlying t with
  | some .bool => some .bool
  | some (.int k) => some (.int k)
  | some .string => some .str
  | some (.slice e) => (bB P n e).map .slice
  | some (.array k e) => (bB P n e).map (.arr k)
  | some (.struct fs) => fs.toList.foldr (fun f r => match bB P n f.type, r with | some a, some b => some (.pair a b) | _, _ => none) (some .unit)
  | some (.interface _) => some .err
  | some (.func ..) => some .opq
  | _ => none
def jB (P : Program) : Nat -> TypeId -> List Value -> Option (List L × List Value)
 | 0, _, _ => none
 | n + 1, t, cs =>
  match P.underlying t with
  | some (.struct fs) => fs.toList.foldl (fun r f => match r with | some (ls, cs) => (jB P n f.type cs).map fun p => (ls ++ p.1, p.2) | none => none) (some ([], cs))
  | some (.array k e) =>
   match bB P n e, (List.range k).foldl (fun r _ => match r with | some (ls, cs) => (jB P n e cs).map fun p => (ls ++ [p.1], p.2) | none => none) (some ([], cs)) with
   | some te, some (lss, cs) =>
    match lss.foldr (fun ls r => match aW te ls, r with | some (x, []), some xs => some (x :: xs) | _, _ => none) (some ([] : List te.den)) with
    | some xs => if xs.length = k then some ([.val (.arr k te) xs], cs) else none
    | none => none
   | _, _ => none
  | some (.slice _) =>
   match cs with
   | .slice none 0 0 :: cs => some ([.aS], cs)
   | _ => none
  | _ => match cs with
   | c :: cs => if c.oneCell' then some ([yT c], cs) else none
   | [] => none
def zOK (ls : List L) (cs : List Value) : Prop := ∀ (β : Nat -> Pl) (w : World) (N : Nat -> Nat -> Prop), aC β w N ls cs
theorem zOK.append {a b : List L} {c d : List Value} (h : zOK a c) (h' : zOK b d) : zOK (a ++ b) (c ++ d) := fun β w N => (h β w N).append (h' β w N)
theorem yV {P : Program} {n : Nat} (ih : ∀ t cs ls cs', jB P n t cs = some (ls, cs') -> ∃ c1, cs = c1 ++ cs' ∧ zOK ls c1) : ∀ (fs : List Field) (ls0 : List L) (cs0 ca : List Value) (ls : List L) (cs' : List Value),
  zOK ls0 ca -> fs.foldl (fun r f => match r with | some (ls, cs) => (jB P n f.type cs).map fun p => (ls ++ p.1, p.2) | none => none) (some (ls0, cs0)) = some (ls, cs') ->
  ∃ c1, cs0 = c1 ++ cs' ∧ zOK ls (ca ++ c1)
 | [], ls0, cs0, ca, ls, cs', h0, h => by
  simp only [List.foldl_nil, Option.some.injEq, Prod.mk.injEq] at h
  obtain ⟨rfl, rfl⟩ := h
  exact ⟨[], rfl, by simpa using h0⟩
 | f :: fs, ls0, cs0, ca, ls, cs', h0, h => by
  simp only [List.foldl_cons] at h
  cases hz : jB P n f.type cs0 with
  | none =>
   rw [hz] at h
   simp only [Option.map_none] at h
   have : ∀ fs : List Field, fs.foldl (fun (r : Option (List L × List Value)) f => match r with | some (ls, cs) => (jB P n f.type cs).map fun p => (ls ++ p.1, p.2) | none => none) none = none := by
    intro fs; induction fs with
    | nil => rfl
    | cons f fs ih => simpa using ih
   rw [this] at h; cases h
  | some p =>
   rw [hz] at h
   simp only [Option.map_some] at h
   obtain ⟨c1, e, hz1⟩ := ih _ _ p.1 p.2 hz
   obtain ⟨c2, e2, hz2⟩ := yV ih fs (ls0 ++ p.1) p.2 (ca ++ c1) ls cs' (h0.append hz1) h
   exact ⟨c1 ++ c2, by rw [e, e2, List.append_assoc], by rwa [List.append_assoc] at hz2⟩
theorem Jr {P : Program} {n : Nat} {e : TypeId} (ih : ∀ t cs ls cs', jB P n t cs = some (ls, cs') -> ∃ c1, cs = c1 ++ cs' ∧ zOK ls c1) : ∀ (k : List Nat) (ls0 : List (List L)) (cs0 : List Value) (Og : List (List Value)) (lss : List (List L)) (cs' : List Value),
  aJ zOK ls0 Og -> k.foldl (fun r _ => match r with | some (ls, cs) => (jB P n e cs).map fun p => (ls ++ [p.1], p.2) | none => none) (some (ls0, cs0)) = some (lss, cs') ->
  ∃ css, cs0 = css.flatten ++ cs' ∧ aJ zOK lss (Og ++ css)
 | [], ls0, cs0, Og, lss, cs', h0, h => by
  simp only [List.foldl_nil, Option.some.injEq, Prod.mk.injEq] at h
  obtain ⟨rfl, rfl⟩ := h
  exact ⟨[], rfl, by simpa using h0⟩
 | k0 :: k, ls0, cs0, Og, lss, cs', h0, h => by
  simp only [List.foldl_cons] at h
  cases hz : jB P n e cs0 with
  | none =>
   rw [hz] at h
   simp only [Option.map_none] at h
   have : ∀ k : List Nat, k.foldl (fun (r : Option (List (List L) × List Value)) _ => match r with | some (ls, cs) => (jB P n e cs).map fun p => (ls ++ [p.1], p.2) | none => none) none = none := by
    intro k; induction k with
    | nil => rfl
    | cons f fs ih => simpa using ih
   rw [this] at h; cases h
  | some p =>
   rw [hz] at h
   simp only [Option.map_some] at h
   obtain ⟨c1, e1, hz1⟩ := ih _ _ p.1 p.2 hz
   obtain ⟨css, e2, hz2⟩ := Jr ih k (ls0 ++ [p.1]) p.2 (Og ++ [c1]) lss cs' (h0.append ⟨hz1, trivial⟩) h
   exact ⟨c1 :: css, by rw [e1, e2]; simp, by simpa using hz2⟩
theorem Bu {te : Ty} : ∀ (lss : List (List L)) (css : List (List Value)) (xs : List te.den), aJ zOK lss css ->
  lss.foldr (fun ls r => match aW te ls, r with | some (x, []), some xs => some (x :: xs) | _, _ => none) (some ([] : List te.den)) = some xs ->
  ∀ (w : World) (N : Nat -> Nat -> Prop), aJ (fun x c => te.Rel w N x c) xs css
 | [], [], xs, _, h, w, N => by simp at h; subst h; trivial
 | ls :: lss, cs :: css, xs, hz, h, w, N => by
  simp only [List.foldr_cons] at h
  split at h
  ·rename_i _ x0 xs0 hi hf
   simp only [Option.some.injEq] at h
   subst h
   obtain ⟨c1, c2, e, h1, h2⟩ := iX (β := fun _ => ⟨false, false, 0, none, 0, 0, 0, []⟩) (w := w) (N := N) hi (hz.1 _ _ _)
   simp only [aC] at h2
   subst h2
   rw [List.append_nil] at e
   subst e
   exact ⟨h1, Bu lss css xs0 hz.2 hf w N⟩
  ·cases h
theorem Cu {P : Program} : ∀ (n : Nat) (t : TypeId) (cs : List Value) (ls : List L) (cs' : List Value), jB P n t cs = some (ls, cs') -> ∃ c1, cs = c1 ++ cs' ∧ zOK ls c1
 | 0, _, _, _, _, h => by simp [jB] at h
 | n + 1, t, cs, ls, cs', h => by
  simp only [jB] at h
  split at h
  ·rename_i fs hu
   obtain ⟨c1, e, hz⟩ := yV (Cu n) fs.toList [] cs [] ls cs' (fun _ _ _ => rfl) h
   exact ⟨c1, e, by simpa using hz⟩
  ·rename_i k e hu
   split at h
   ·rename_i _ te lss cs1 hte hf
    split at h
    ·rename_i xs hxs
     split at h
     ·rename_i hlen
      simp only [Option.some.injEq, Prod.mk.injEq] at h
      obtain ⟨rfl, rfl⟩ := h
      obtain ⟨css, e1, hz⟩ := Jr (Cu n) (List.range k) [] cs [] lss cs1 trivial hf
      refine ⟨css.flatten, e1, fun β w N => ⟨_, [], (List.append_nil _).symm, ?_, rfl⟩⟩
      simp only [L.Rel, Ty.Rel]
      exact ⟨hlen, css, rfl, Bu lss css xs (by simpa using hz) hxs w N⟩
     ·cases h
    ·cases h
   ·cases h
  ·split at h
   ·simp only [Option.some.injEq, Prod.mk.injEq] at h
    obtain ⟨rfl, rfl⟩ := h
    exact ⟨[.slice none 0 0], rfl, fun β w N => aC.single (by simp only [L.Rel])⟩
   ·cases h
  ·split at h
   ·rename_i c cs1
    split at h
    ·rename_i ho
     simp only [Option.some.injEq, Prod.mk.injEq] at h
     obtain ⟨rfl, rfl⟩ := h
     exact ⟨[c], rfl, fun β w N => aC.single (Ep c ho)⟩
    ·cases h
   ·cases h
def eqF (P : Program) (g : TypeId -> Bool) (h : TypeId -> Option Ty) : Nat -> List Field -> Bool
 | _, [] => true
 | off, f :: fs => f.offset == off && !(f.name == "_") && g f.type && (match h f.type with | some a => a.size == P.cellsOf f.type | none => false) && eqF P g h (off + P.cellsOf f.type) fs
def pY (P : Program) : Nat -> TypeId -> Bool
 | 0, _ => false
 | n + 1, t =>
  match P.underlying t with
  | some .bool | some (.int _) | some .string => true
  | some (.struct fs) => !P.stoodInHeld t && eqF P (pY P n) (bB P n) 0 fs.toList
  | some (.array _ e) => pY P n e && (match bB P n e with | some a => a.size == P.cellsOf e | none => false)
  | _ => false
def jH : Value -> Bool
 | .agg _ => true
 | _ => false
def zAu (P : Program) (t : TypeId) : Option TI :=
 match P.info? t, P.underlying t with
 | some i, some d =>
  match i.zero with
  | some z =>
   match jB P 12 t z.cells.toList with
   | some (ls, []) =>
    if (TK.of d).isAgg == jH z && z.cells.size == i.size then
     some { k := TK.of d, size := i.size, bytes := i.bytes, zls := ls, ty := bB P 12 t, eqs := (TK.of d).isAgg && (!P.eqGuardType P.depth t && pY P 12 t) }
    else none
   | _ => none
  | none => none
 | _, _ => none
structure eZ (P : Program) (t : TypeId) (ti : TI) : Prop where
 i : ∃ (i : TypeInfo) (z : Value), P.info? t = some i ∧ i.size = ti.size ∧ i.bytes = ti.bytes ∧ i.zero = some z ∧ zOK ti.zls z.cells.toList ∧ z.cells.size = i.size ∧ ti.k.isAgg = jH z
 und : ∃ d, P.underlying t = some d ∧ TK.of d = ti.k
 ty : bB P 12 t = ti.ty
 eqs : ti.eqs = true -> P.eqGuardType P.depth t = false ∧ pY P 12 t = true
theorem zDw {P : Program} {t : TypeId} {ti : TI} (h : zAu P t = some ti) : eZ P t ti := by
 unfold zAu at h
 split at h
 ·rename_i i d hi hd
  split at h
  ·rename_i z hz
   split at h
   ·rename_i ls hls
    split at h
    ·rename_i hc
     simp only [Option.some.injEq] at h
     subst h
     rw [Bool.and_eq_true] at hc
     obtain ⟨c1, e, hok⟩ := Cu _ _ _ _ _ hls
     rw [List.append_nil] at e
     refine ⟨⟨i, z, hi, rfl, rfl, hz, ?_, by simpa using hc.2, by simpa using hc.1⟩, ⟨d, hd, rfl⟩, rfl, fun h => by simp at h; exact h.2⟩
     rw [e]; exact hok
    ·cases h
   ·cases h
  ·cases h
 ·cases h
abbrev Tab := List (TypeId × TI)
def Tab.get : Tab -> TypeId -> Option TI
 | [], _ => none
 | p :: r, t => if Nat.beq p.1 t then some p.2 else Tab.get r t
def aT (P : Program) (T : Tab) : Prop := ∀ t ti, T.get t = some ti -> eZ P t ti
theorem Oh {P : Program} : ∀ {T : Tab}, (T.map fun p => zAu P p.1) = T.map (fun p => some p.2) -> aT P T
 | [], _, _, _, h => by simp [Tab.get] at h
 | p :: r, h, t, ti, ht => by
  simp only [List.map_cons, List.cons.injEq] at h
  simp only [Tab.get] at ht
  split at ht
  ·rename_i hb
   have : p.1 = t := Nat.eq_of_beq_eq_true hb
   subst this
   simp only [Option.some.injEq] at ht
   subst ht
   exact zDw h.1
  ·exact Oh h.2 t ti ht
end Go.Dec
namespace Go.Dec
def V.leaves : V -> Option (List L)
 | .one l => some [l]
 | .agg ls => some ls
 | _ => none
theorem V.lS {β : Nat -> Pl} {w : World} {N : Nat -> Nat -> Prop} {v : V} {ls : List L} {x : Value} (h : v.leaves = some ls) (hr : v.Rel β w N x) : aC β w N ls x.cells.toList := by
 cases v with
 | one l =>
  simp only [V.leaves, Option.some.injEq] at h
  subst h
  have h1 := L.Rel.one hr x (by simp)
  have : x.cells = #[x] := by cases x <;> first | rfl | simp [Value.oneCell'] at h1
  rw [this]
  exact aC.single hr
 | agg l =>
  simp only [V.leaves, Option.some.injEq] at h
  subst h
  obtain ⟨cs, rfl, hr⟩ := hr
  exact hr
 | _ => simp [V.leaves] at h
def mkV (agg : Bool) (ls : List L) : Option V :=
 match agg, ls with
 | true, ls => some (.agg ls)
 | false, [l] => some (.one l)
 | _, _ => none
def un (op : UnOp) (x : L) : Option (Bool × L) :=
 match op, x with
 | .not, .val .bool b => some (true, .val .bool (!b))
 | .neg, .val (.int k) n => some (true, .val (.int k) (k.wrap (0 - n)))
 | _, _ => none
def inB (i : Int) (n : Nat) : Bool := decide (0 <= i) && decide (i < (n : Int))
theorem mP {i : Int} {n : Nat} (h : inB i n = true) : 0 <= i ∧ i < (n : Int) ∧ i.toNat < n := by
 unfold inB at h
 rw [Bool.and_eq_true] at h
 have h1 := of_decide_eq_true h.1
 have h2 := of_decide_eq_true h.2
 exact ⟨h1, h2, by omega⟩
def dP {α : Type} (d : α) (xs : List α) (i : Int) : α := xs.getD i.toNat d
def rC (h : List Ob) (l : L) (off : Nat) : Option (Bool × L) :=
 match l with
 | .ptr id o => some (true, .ptr id (o + off))
 | .eY id o es i sub => some (true, .eY id o es i (sub + off))
 | .bW id ver i o =>
  match h[id]? with
  | some (.arr _ _ v _ _) => some (Nat.beq v ver, .bW id ver i (o + off))
  | _ => none
 | .dX t x o => some (true, .dX t x (o + off))
 | _ => none
def L.view (h : List Ob) : L -> L
 | .own id ver =>
  match h[id]? with
  | some (.arr _ _ _ rows _) => .sl id ver 0 rows.length
  | _ => .bad 1
 | l => l
def zDg (h : List Ob) : L -> Option (Bool × Int)
 | .val (.slice _) xs => some (true, (xs.length : Int))
 | .aS => some (true, 0)
 | .sl id ver _ len =>
  match h[id]? with
  | some (.arr _ _ v _ _) => some (Nat.beq v ver, (len : Int))
  | _ => none
 | _ => none
def uU (T : Tab) (h : List Ob) (k : TK) (x : L) (i : Int) : Option (Bool × L) :=
 match k, x with
 | .slice e, .val (.slice te) xs =>
  match T.get e with
  | some ti => if ti.size = te.size then some (inB i xs.length, .dX te (dP te.dflt xs i) 0) else none
  | none => none
 | .slice e, .sl id ver off len =>
  match h[id]?, T.get e with
  | some (.arr _ t v rows _), some ti => if ti.size = t.size then some (Nat.beq v ver && inB i len && decide (off + len <= rows.length), .bW id ver (off + i.toNat) 0) else none
  | _, _ => none
 | .arr n e, .ptr id off =>
  match T.get e with
  | some ti => some (inB i n, .eY id off ti.size i.toNat 0)
  | none => none
 | .arr n e, .dX t0 x0 off =>
  match T.get e with
  | some ti =>
   match oG (explode t0 x0) off (n * ti.size) with
   | some [.val (.arr m te) xs] => if m = n ∧ ti.size = te.size then some (inB i n, .dX te (dP te.dflt xs i) 0) else none
   | _ => none
  | none => none
 | _, _ => none
def loadAt (T : Tab) (h : List Ob) (t : TypeId) (x : L) : Option (Bool × V) :=
 match T.get t with
 | none => none
 | some ti =>
  match x with
  | .ptr id off =>
   match h[id]? with
   | some (.box _ ls) =>
    match oG ls off ti.size with
    | some c => (mkV ti.k.isAgg c).map fun v => (true, v)
    | none => none
   | _ => none
  | .eY id off es i sub =>
   match h[id]? with
   | some (.box _ ls) =>
    match eU ls off with
    | some (_, .val (.arr n te) xs :: _) =>
     if te.size = es then
      match oG (explode te (xs.getD i te.dflt)) sub ti.size with
      | some c => (mkV ti.k.isAgg c).map fun v => (decide (i < n), v)
      | none => none
     else none
    | _ => none
   | _ => none
  | .bW id ver i off =>
   match h[id]? with
   | some (.arr _ te v rows _) =>
    match oG (explode te (rows.getD i te.dflt)) off ti.size with
    | some c => (mkV ti.k.isAgg c).map fun u => (Nat.beq v ver && decide (i < rows.length), u)
    | none => none
   | _ => none
  | .dX te y off =>
   match oG (explode te y) off ti.size with
   | some c => (mkV ti.k.isAgg c).map fun v => (true, v)
   | none => none
  | _ => none
def idx (x : V) (i : Int) : Option (Bool × V) :=
 match x with
 | .one (.val .str s) => some (inB i s.length, .one (.val (.int .u8) ((dP 0 s i).toNat : Int)))
 | _ => none
def bounds (n : Nat) (lo hi : Option Int) : Bool × Nat × Nat :=
 match lo, hi with
 | none, none => (true, 0, n)
 | some l, none => (decide (0 <= l) && decide (l <= (n : Int)), l.toNat, n)
 | none, some h => (decide (0 <= h) && decide (h <= (n : Int)), 0, h.toNat)
 | some l, some h => (decide (0 <= h) && decide (h <= (n : Int)) && (decide (0 <= l) && decide (l <= h)), l.toNat, h.toNat)
def cut {α : Type} (xs : List α) (lo hi : Option Int) : List α :=
 match lo, hi with
 | none, none => xs
 | some l, none => xs.drop l.toNat
 | none, some h => xs.take h.toNat
 | some l, some h => (xs.take h.toNat).drop l.toNat
def slice (k : TK) (x : L) (lo hi : Option Int) (hp : List Ob) : Option (Bool × L) :=
 match k, x with
 | .str, .val .str s => some ((bounds s.length lo hi).1, .val .str (cut s lo hi))
 | .slice _, .val (.slice te) xs => some ((bounds xs.length lo hi).1, .val (.slice te) (cut xs lo hi))
 | .slice _, .sl id ver off len =>
  match hp[id]? with
  | some (.arr _ _ v _ _) => some (Nat.beq v ver && (bounds len lo hi).1, .sl id ver (off + (bounds len lo hi).2.1) ((bounds len lo hi).2.2 - (bounds len lo hi).2.1))
  | _ => none
 | _, _ => none
def build (T : Tab) (fs : List (Nat × TypeId)) : List L -> List (Nat × V) -> Option (List L)
 | ls, [] => some ls
 | ls, (i, v) :: r =>
  match fs[i]?, v.leaves with
  | some (off, ft), some new =>
   match T.get ft with
   | some ti => if sizes new = ti.size then
     match pX ls off new with
     | some ls' => build T fs ls' r
     | none => none
    else none
   | none => none
  | _, _ => none
def ext (x : V) (i : Nat) : Option V :=
 match x with
 | .tup vs =>
  match vs[i]? with
  | some (.inl l) => some (.one l)
  | some (.inr ls) => some (.agg ls)
  | none => none
 | _ => none
def iV : V -> Option (IntKind × Int)
 | .one (.val (.int k) n) => some (k, n)
 | _ => none
def gM (σ : St) : Option Operand -> Option (Option Int)
 | none => some none
 | some x => match iV (ovl σ x) with | some (_, n) => some (some n) | none => none
def caps (σ : St) : List Operand -> Option (List L)
 | [] => some []
 | x :: r =>
  match ovl σ x, caps σ r with
  | .one l, some ls => some (l :: ls)
  | _, _ => none
end Go.Dec
namespace Go.Dec
section
variable {P : Program} {β : Nat -> Pl} {w : World} {N : Nat -> Nat -> Prop} {T : Tab}
theorem eZ.slice {t e : TypeId} {ti : TI} (h : eZ P t ti) (hk : ti.k = .slice e) : P.underlying t = some (.slice e) := by
 obtain ⟨d, hd, hk'⟩ := h.und
 rw [hk] at hk'
 cases d <;> simp only [TK.of, TK.slice.injEq, reduceCtorEq] at hk'
 subst hk'
 exact hd
theorem eZ.arr {t e : TypeId} {n : Nat} {ti : TI} (h : eZ P t ti) (hk : ti.k = .arr n e) : P.underlying t = some (.array n e) := by
 obtain ⟨d, hd, hk'⟩ := h.und
 rw [hk] at hk'
 cases d <;> simp only [TK.of, TK.arr.injEq, reduceCtorEq] at hk'
 obtain ⟨rfl, rfl⟩ := hk'
 exact hd
theorem eZ.str {t : TypeId} {ti : TI} (h : eZ P t ti) (hk : ti.k = .str) : P.underlying t = some .string := by
 obtain ⟨d, hd, hk'⟩ := h.und
 rw [hk] at hk'
 cases d <;> simp only [TK.of, reduceCtorEq] at hk'
 exact hd
theorem eZ.bool {t : TypeId} {ti : TI} (h : eZ P t ti) (hk : ti.k = .bool) : P.underlying t = some .bool := by
 obtain ⟨d, hd, hk'⟩ := h.und
 rw [hk] at hk'
 cases d <;> simp only [TK.of, reduceCtorEq] at hk'
 exact hd
theorem eZ.int {t : TypeId} {k : IntKind} {ti : TI} (h : eZ P t ti) (hk : ti.k = .int k) : P.underlying t = some (.int k) := by
 obtain ⟨d, hd, hk'⟩ := h.und
 rw [hk] at hk'
 cases d <;> simp only [TK.of, TK.int.injEq, reduceCtorEq] at hk'
 subst hk'
 exact hd
theorem eZ.ptr {t e : TypeId} {ti : TI} (h : eZ P t ti) (hk : ti.k = .ptr e) : P.underlying t = some (.pointer e) := by
 obtain ⟨d, hd, hk'⟩ := h.und
 rw [hk] at hk'
 cases d <;> simp only [TK.of, TK.ptr.injEq, reduceCtorEq] at hk'
 subst hk'
 exact hd
theorem eZ.iface {t : TypeId} {b : Bool} {ti : TI} (h : eZ P t ti) (hk : ti.k = .iface b) : ∃ ms, P.underlying t = some (.interface ms) := by
 obtain ⟨d, hd, hk'⟩ := h.und
 rw [hk] at hk'
 cases d <;> simp only [TK.of, reduceCtorEq] at hk'
 exact ⟨_, hd⟩
theorem eZ.struct {t : TypeId} {fs : List (Nat × TypeId)} {ti : TI} (h : eZ P t ti) (hk : ti.k = .struct fs) : ∃ ff : Array Field, P.underlying t = some (.struct ff) ∧ fs = ff.toList.map fun f => (f.offset, f.type) := by
 obtain ⟨d, hd, hk'⟩ := h.und
 rw [hk] at hk'
 cases d <;> simp only [TK.of, TK.struct.injEq, reduceCtorEq] at hk'
 exact ⟨_, hd, hk'.symm⟩
theorem eZ.sizeOf {t : TypeId} {ti : TI} (h : eZ P t ti) : (sizeOf t).run P w = .ok ti.size w := by
 obtain ⟨i, z, hi, hs, _⟩ := h.i
 simp [Go.sizeOf, typeInfo, hi, hs]
theorem eZ.isAgg {t : TypeId} {ti : TI} (h : eZ P t ti) : (Go.isAgg t).run P w = .ok ti.k.isAgg w := by
 obtain ⟨d, hd, hk⟩ := h.und
 rw [<- hk]
 simp only [Go.isAgg, Sem.run_bind, run_underlying hd, Result.andThen_ok]
 cases d <;> rfl
theorem yN {b off : Nat} {cs : List Value} (h : Cells w b off cs) : (loadCells ⟨b, off, none⟩ cs.length).run P w = .ok cs.toArray w :=
 run_loadCells_list (P := P) w ⟨b, off, none⟩ cs fun j v hv => by
  have := h j v hv
  simpa [Addr.add_lit] using this
theorem wC {t : TypeId} {ti : TI} (h : eZ P t ti) {b off : Nat} {c : List L} {cs : List Value} {v : V} (hc : Cells w b off cs) (hl : aC β w N c cs) (hs : cs.length = ti.size) (hv : mkV ti.k.isAgg c = some v) :
  ∃ x, (loadVar t ⟨b, off, none⟩).run P w = .ok x w ∧ v.Rel β w N x := by
 cases ha : ti.k.isAgg with
 | true =>
  rw [ha] at hv
  simp only [mkV, Option.some.injEq] at hv
  subst hv
  refine ⟨.agg cs.toArray, ?_, ⟨cs, rfl, hl⟩⟩
  simp only [loadVar, Sem.run_bind, h.isAgg, Result.andThen_ok, ha, if_true, h.sizeOf]
  rw [<- hs, yN hc]
  rfl
 | false =>
  rw [ha] at hv
  match c, hv with
  | [l], hv =>
   simp only [mkV, Option.some.injEq] at hv
   subst hv
   obtain ⟨c1, c2, e, h1, h2⟩ := hl
   simp only [aC] at h2
   subst h2
   rw [List.append_nil] at e
   subst e
   have : ti.size = 1 := by
    obtain ⟨i, z, _, hsz, _, _, _, hz, hag⟩ := h.i
    rw [ha] at hag
    rw [<- hsz, <- hz]
    cases z <;> first | rfl | simp [jH] at hag
   rw [this] at hs
   obtain ⟨x, rfl⟩ : ∃ x, cs = [x] := by
    match cs, hs with
    | [x], _ => exact ⟨x, rfl⟩
   refine ⟨x, ?_, h1⟩
   have := hc 0 x rfl
   simp only [Nat.add_zero] at this
   simp [loadVar, Sem.run_bind, h.isAgg, Result.andThen_ok, ha, run_load, this]
theorem Cells.of_heap {b : Nat} {cs : Array Value} {e : TypeId} {f : Nat × Nat} (h : w.heap[b]? = some (.cells cs e f)) : Cells w b 0 cs.toList := fun j c hj => by
 simp only [World.cell?, Nat.zero_add, h]
 simpa using hj
theorem Cells.sub {b o off n : Nat} {cs : List Value} (h : Cells w b o cs) : Cells w b (o + off) ((cs.drop off).take n) := (h.drop off).take n
theorem wD {C : Ctx} {σh : List Ob} {t : TypeId} {l : L} {v : V} {x : Value} (hT : aT C.P T) (h : loadAt T σh t l = some (true, v)) (hh : bG C β σh w) (hl : l.Rel β w (C.N β σh) [x]) :
    ∃ y, (Instr.loadAt t x).run C.P w = .ok y w ∧ v.Rel β w (C.N β σh) y := by
  unfold loadAt at h
  split at h
  · cases h
  · rename_i ti hti
    have hok := hT _ _ hti
    split at h
    ·
      rename_i id off
      split at h
      · rename_i e ls ho
        split at h
        · rename_i c hc
          cases hv : mkV ti.k.isAgg c with
          | none => rw [hv] at h; cases h
          | some v' =>
            rw [hv] at h
            simp only [Option.map_some, Option.some.injEq, Prod.mk.injEq, true_and] at h
            subst h
            have hob := hh.obj id _ ho
            simp only [Ob.Rel] at hob
            obtain ⟨_, _, b, cs, hb, hls, hheap⟩ := hob
            simp only [L.Rel] at hl
            obtain ⟨_, _, b', hb', hx⟩ := hl
            rw [hb] at hb'
            simp only [Option.some.injEq] at hb'
            subst hb'
            simp only [List.cons.injEq, and_true] at hx
            subst hx
            obtain ⟨hr, hle⟩ := jQ hc hls
            have hcs := Cells.of_heap hheap
            obtain ⟨y, hy, hv'⟩ := wC hok (b := b) (off := 0 + off) (hcs.sub (n := ti.size)) hr (by simp; omega) hv
            rw [Nat.zero_add] at hy
            exact ⟨y, by simpa [Instr.loadAt, Instr.sureAddr] using hy, hv'⟩
        · cases h
      · cases h
    ·
      rename_i id off es i sub
      split at h
      · rename_i e ls ho
        split at h
        · rename_i n te xs rest hsp
          split at h
          · rename_i hes
            split at h
            · rename_i c hc
              cases hv : mkV ti.k.isAgg c with
              | none => rw [hv] at h; cases h
              | some v' =>
                rw [hv] at h
                simp only [Option.map_some, Option.some.injEq, Prod.mk.injEq] at h
                obtain ⟨hi, rfl⟩ := h
                have hi := of_decide_eq_true hi
                have hob := hh.obj id _ ho
                simp only [Ob.Rel] at hob
                obtain ⟨_, _, b, cs, hb, hls, hheap⟩ := hob
                simp only [L.Rel] at hl
                obtain ⟨_, _, b', hb', hx⟩ := hl
                rw [hb] at hb'
                simp only [Option.some.injEq] at hb'
                subst hb'
                simp only [List.cons.injEq, and_true] at hx
                subst hx
                obtain ⟨_, hr, _⟩ := gU hsp hls
                obtain ⟨c1, c2, e1, h1, h2⟩ := hr
                simp only [L.Rel, Ty.Rel] at h1
                obtain ⟨hn, css, e2, hall⟩ := h1
                have hlen : ∀ c ∈ css, c.length = es := fun c hc => by
                  obtain ⟨y, _, hy⟩ := hall.mem_right c hc
                  rw [hy.length, hes]
                have hi1 : i < css.length := by rw [<- hall.length, hn]; exact hi
                have hrel := hall.get i (by rw [hn]; exact hi) hi1
                have hcs := (Cells.of_heap hheap).drop off
                rw [e1, e2] at hcs
                have hcs := hcs.left
                have hcs2 : Cells w b (0 + off + i * es) css[i] := fun j c hj => by
                  have hj' : j < es := by rw [<- hlen css[i] (List.getElem_mem hi1)]; exact (List.getElem?_eq_some_iff.1 hj).1
                  have := hcs (i * es + j) c (by rw [jP css hlen i j hi1 hj', hj])
                  rwa [show 0 + off + (i * es + j) = 0 + off + i * es + j by omega] at this
                have hget : xs.getD i te.dflt = xs[i]'(by rw [hn]; exact hi) := by
                  simp only [List.getD_eq_getElem?_getD]; rw [List.getElem?_eq_getElem (by rw [hn]; exact hi)]; rfl
                rw [hget] at hc
                obtain ⟨hr, hle⟩ := jQ (β := β) hc (dJ hrel)
                obtain ⟨y, hy, hv'⟩ := wC hok (b := b) (off := 0 + off + i * es + sub) (hcs2.sub (n := ti.size)) hr (by simp; omega) hv
                rw [Nat.zero_add] at hy
                exact ⟨y, by simpa [Instr.loadAt, Instr.sureAddr] using hy, hv'⟩
            · cases h
          · cases h
        · cases h
      · cases h
    ·
      rename_i id ver i off
      split at h
      · rename_i e te vv rows wr ho
        split at h
        · rename_i c hc
          cases hv : mkV ti.k.isAgg c with
          | none => rw [hv] at h; cases h
          | some v' =>
            rw [hv] at h
            simp only [Option.map_some, Option.some.injEq, Prod.mk.injEq, Bool.and_eq_true] at h
            obtain ⟨⟨kT, hi⟩, rfl⟩ := h
            have kT := Nat.eq_of_beq_eq_true kT
            have hi := of_decide_eq_true hi
            have hob := hh.obj id _ ho
            simp only [Ob.Rel] at hob
            obtain ⟨_, _, hpv, hpz, hpos, Vb, hob⟩ := hob
            simp only [L.Rel] at hl
            obtain ⟨_, _, _, c0, hc0, _, himp⟩ := hl
            obtain ⟨b', hb', hx⟩ := himp (by rw [hpv, kT])
            simp only [List.cons.injEq, and_true] at hc0
            subst hc0
            rcases hob with ⟨hnb, _⟩ | ⟨b, cur, css, hb, hheap, hall, htake, hcap, _, _⟩
            · rw [hnb] at hb'; cases hb'
            · rw [hb] at hb'
              simp only [Option.some.injEq] at hb'
              subst hb'
              subst hx
              have hlen : ∀ c ∈ css, c.length = te.size := fun c hc => by
                obtain ⟨y, _, hy⟩ := hall.mem_right c hc
                exact hy.length
              have hi1 : i < css.length := by rw [<- hall.length]; exact hi
              have hrel := hall.get i hi hi1
              have hcs := (Cells.of_heap hheap).take (rows.length * te.size)
              rw [htake] at hcs
              have hcs2 : Cells w b (0 + i * te.size) css[i] := fun j c hj => by
                have hj' : j < te.size := by rw [<- hlen css[i] (List.getElem_mem hi1)]; exact (List.getElem?_eq_some_iff.1 hj).1
                have := hcs (i * te.size + j) c (by rw [jP css hlen i j hi1 hj', hj])
                rwa [show 0 + (i * te.size + j) = 0 + i * te.size + j by omega] at this
              have hget : rows.getD i te.dflt = rows[i] := by
                simp only [List.getD_eq_getElem?_getD]; rw [List.getElem?_eq_getElem hi]; rfl
              rw [hget] at hc
              obtain ⟨hr, hle⟩ := jQ (β := β) hc (dJ hrel)
              obtain ⟨y, hy, hv'⟩ := wC hok (b := b) (off := 0 + i * te.size + off) (hcs2.sub (n := ti.size)) hr (by simp; omega) hv
              rw [Nat.zero_add] at hy
              exact ⟨y, by simpa [Instr.loadAt, Instr.sureAddr, hpz] using hy, hv'⟩
        · cases h
      · cases h
    ·
      rename_i te y off
      split at h
      · rename_i c hc
        cases hv : mkV ti.k.isAgg c with
        | none => rw [hv] at h; cases h
        | some v' =>
          rw [hv] at h
          simp only [Option.map_some, Option.some.injEq, Prod.mk.injEq, true_and] at h
          subst h
          simp only [L.Rel] at hl
          obtain ⟨c0, hc0, b, o, cs, rfl, hb, hn, hrel, hcs⟩ := hl
          simp only [List.cons.injEq, and_true] at hc0
          subst hc0
          obtain ⟨hr, hle⟩ := jQ (β := β) hc (dJ hrel)
          obtain ⟨y, hy, hv'⟩ := wC hok (b := b) (off := o + off) (hcs.sub (n := ti.size)) hr (by simp; omega) hv
          exact ⟨y, by simpa [Instr.loadAt, Instr.sureAddr] using hy, hv'⟩
      · cases h
    · cases h
end
end Go.Dec
namespace Go.Dec
section
variable {β : Nat -> Pl} {w : World} {T : Tab} {C : Ctx}
theorem addr_add (b o n : Nat) : (⟨b, o, none⟩ : Addr).add n = ⟨b, o + n, none⟩ := by
 simp [Addr.add_lit]
theorem Cv {σh : List Ob} {l : L} {cs : List Value} (hh : bG C β σh w) (hl : l.Rel β w (C.N β σh) cs) : (l.view σh).Rel β w (C.N β σh) cs := by
 cases l with
 | own id ver =>
  simp only [L.view]
  split
  ·rename_i e t v rows wr ho
   have hob := hh.obj _ _ ho
   simp only [Ob.Rel] at hob
   obtain ⟨_, _, _, _, _, hlen, _⟩ := hob
   simp only [L.Rel] at hl ⊢
   rwa [hlen] at hl
  ·simp only [L.Rel] at hl ⊢
   obtain ⟨_, _, _, c, rfl, hc, _⟩ := hl
   exact ⟨rfl, by intro x hx; simp at hx; subst hx; exact hc⟩
 | _ => exact hl
theorem Sk {σh : List Ob} {t : TypeId} {ti : TI} {l l' : L} {x : Value} {k : IntKind} {i : Int} (hT : aT C.P T) (ht : T.get t = some ti) (h : uU T σh ti.k l i = some (true, l')) (hh : bG C β σh w)
    (hl : l.Rel β w (C.N β σh) [x]) : ∃ y, (Instr.indexAt t x (.int k i)).run C.P w = .ok y w ∧ l'.Rel β w (C.N β σh) [y] := by
  have hok := hT _ _ ht
  unfold uU at h
  split at h
  ·
    rename_i e te xs hk
    split at h
    · rename_i tie hte
      split at h
      · rename_i hsz
        simp only [Option.some.injEq, Prod.mk.injEq] at h
        obtain ⟨hi, rfl⟩ := h
        obtain ⟨h0, h1, h2⟩ := mP hi
        simp only [L.Rel, Ty.Rel] at hl
        obtain ⟨x', e1, hs⟩ := hl
        simp only [List.cons.injEq, and_true] at e1
        subst e1
        rcases hs with ⟨_, rfl⟩ | ⟨b, off, cap, css, rfl, hb, hn, hlc, hm, hall, hlen, hcs⟩ | ⟨_, _, _, rfl, _⟩
        rotate_left 2
        · simp at h2
        · simp at h2
        · have hi1 : i.toNat < css.length := by rw [<- hall.length]; exact h2
          have hrel := hall.get i.toNat h2 hi1
          have hcs2 : Cells w b (off + i.toNat * te.size) css[i.toNat] := fun j c hj => by
            have hj' : j < te.size := by rw [<- hlen css[i.toNat] (List.getElem_mem hi1)]; exact (List.getElem?_eq_some_iff.1 hj).1
            have := hcs (i.toNat * te.size + j) c (by rw [jP css hlen i.toNat j hi1 hj', hj])
            rwa [show off + (i.toNat * te.size + j) = off + i.toNat * te.size + j by omega] at this
          have hget : dP te.dflt xs i = xs[i.toNat] := by
            simp only [dP, List.getD_eq_getElem?_getD]; rw [List.getElem?_eq_getElem h2]; rfl
          refine ⟨.pointer (some ⟨b, off + i.toNat * te.size, none⟩), ?_, ?_⟩
          · simp only [Instr.indexAt, asIntOf, Sem.run_bind, Sem.run_pure, Result.andThen_ok, run_underlying (hok.slice hk), h0, h1, and_self, if_true, (hT _ _ hte).sizeOf, addr_add, hsz]
          · simp only [L.Rel]
            exact ⟨_, rfl, b, off + i.toNat * te.size, css[i.toNat], rfl, hb, fun j g1 g2 => hn j (by omega) (by rw [hlen _ (List.getElem_mem hi1)] at g2; have := Jq (n := te.size) h2; omega), by rw [hget]; exact hrel, hcs2⟩
      · cases h
    · cases h
  ·
    rename_i e id ver off len hk
    split at h
    · rename_i _ _ e' te v rows wr tie ho hte
      split at h
      · rename_i hsz
        simp only [Option.some.injEq, Prod.mk.injEq, Bool.and_eq_true] at h
        obtain ⟨⟨⟨kT, hi⟩, hle⟩, rfl⟩ := h
        have kT := Nat.eq_of_beq_eq_true kT
        have hle := of_decide_eq_true hle
        obtain ⟨h0, h1, h2⟩ := mP hi
        have hob := hh.obj id _ ho
        simp only [Ob.Rel] at hob
        obtain ⟨hlive, lT, hpv, hpz, hpos, Vb, hob⟩ := hob
        simp only [L.Rel] at hl
        obtain ⟨_, _, _, c0, hc0, _, himp⟩ := hl
        have hsl := himp (by rw [hpv, kT])
        simp only [List.cons.injEq, and_true] at hc0
        subst hc0
        unfold bP at hsl
        rcases hob with ⟨hnb, hr0, _⟩ | ⟨b, cur, css, hb, hheap, hall, htake, hcap, _, _⟩
        · rw [hnb] at hsl
          simp only at hsl
          omega
        · rw [hb] at hsl
          simp only at hsl
          obtain ⟨hoff, o, rfl, ho'⟩ := hsl
          have ho' : o = off * (β id).size := by
            rcases ho' with h | h
            · exact h
            · omega
          refine ⟨.pointer (some ⟨b, o + i.toNat * te.size, none⟩), ?_, ?_⟩
          · simp only [Instr.indexAt, asIntOf, Sem.run_bind, Sem.run_pure, Result.andThen_ok, run_underlying (hok.slice hk), h0, h1, and_self, if_true, (hT _ _ hte).sizeOf, addr_add, hsz]
          · simp only [L.Rel]
            refine ⟨hlive, lT, by omega, _, rfl, rfl, fun _ => ⟨b, hb, ?_⟩⟩
            rw [ho', hpz, Nat.add_mul, Nat.add_zero]
      · cases h
    · cases h
  ·
    rename_i n e id off hk
    split at h
    · rename_i tie hte
      simp only [Option.some.injEq, Prod.mk.injEq] at h
      obtain ⟨hi, rfl⟩ := h
      obtain ⟨h0, h1, h2⟩ := mP hi
      simp only [L.Rel] at hl
      obtain ⟨hlive, lT, b, hb, hx⟩ := hl
      simp only [List.cons.injEq, and_true] at hx
      subst hx
      refine ⟨.pointer (some ⟨b, off + i.toNat * tie.size, none⟩), ?_, ?_⟩
      · simp only [Instr.indexAt, asIntOf, Sem.run_bind, Sem.run_pure, Result.andThen_ok, run_underlying (hok.arr hk), Instr.sureAddr, h0, h1, and_self, if_true, (hT _ _ hte).sizeOf, addr_add]
      · simp only [L.Rel]
        exact ⟨hlive, lT, b, hb, rfl⟩
    · cases h
  ·
    rename_i n e t0 x0 off hk
    split at h
    · rename_i tie hte
      split at h
      · rename_i m te xs htk
        split at h
        · rename_i hc
          obtain ⟨rfl, hsz⟩ := hc
          simp only [Option.some.injEq, Prod.mk.injEq] at h
          obtain ⟨hi, rfl⟩ := h
          obtain ⟨h0, h1, h2⟩ := mP hi
          simp only [L.Rel] at hl
          obtain ⟨c0, hc0, b, o, cs, rfl, hb, hn, hrel, hcs⟩ := hl
          simp only [List.cons.injEq, and_true] at hc0
          subst hc0
          obtain ⟨hr, hle⟩ := jQ (β := β) htk (dJ hrel)
          obtain ⟨d1, d2, e1, hr1, hr2⟩ := hr
          simp only [aC] at hr2
          subst hr2
          rw [List.append_nil] at e1
          simp only [L.Rel, Ty.Rel] at hr1
          obtain ⟨hxl, css, e2, hall⟩ := hr1
          have hlen : ∀ c ∈ css, c.length = te.size := fun c hc => by
            obtain ⟨y, _, hy⟩ := hall.mem_right c hc
            exact hy.length
          have hi0 : i.toNat < xs.length := by rw [hxl]; exact h2
          have hi1 : i.toNat < css.length := by rw [<- hall.length]; exact hi0
          have Vd := hall.get i.toNat hi0 hi1
          have hcs2 := hcs.sub (off := off) (n := m * tie.size)
          rw [e1, e2] at hcs2
          have zIs : Cells w b (o + off + i.toNat * te.size) css[i.toNat] := fun j c hj => by
            have hj' : j < te.size := by rw [<- hlen css[i.toNat] (List.getElem_mem hi1)]; exact (List.getElem?_eq_some_iff.1 hj).1
            have := hcs2 (i.toNat * te.size + j) c (by rw [jP css hlen i.toNat j hi1 hj', hj])
            rwa [show o + off + (i.toNat * te.size + j) = o + off + i.toNat * te.size + j by omega] at this
          have hget : dP te.dflt xs i = xs[i.toNat] := by
            simp only [dP, List.getD_eq_getElem?_getD]; rw [List.getElem?_eq_getElem hi0]; rfl
          refine ⟨.pointer (some ⟨b, o + off + i.toNat * te.size, none⟩), ?_, ?_⟩
          · simp only [Instr.indexAt, asIntOf, Sem.run_bind, Sem.run_pure, Result.andThen_ok, run_underlying (hok.arr hk), Instr.sureAddr, h0, h1, and_self, if_true, (hT _ _ hte).sizeOf, addr_add, hsz]
          · simp only [L.Rel]
            have hln : css.flatten.length <= cs.length - off := by
              rw [<- e2, <- e1, List.length_take, List.length_drop]; exact Nat.min_le_right _ _
            have hoff : css.flatten.length = xs.length * te.size := by rw [aR css hlen, <- hall.length]
            exact ⟨_, rfl, b, o + off + i.toNat * te.size, css[i.toNat], rfl, hb, fun j g1 g2 => hn j (by omega) (by
              rw [hlen _ (List.getElem_mem hi1)] at g2
              have := Jq (n := te.size) hi0
              omega), by rw [hget]; exact Vd, zIs⟩
        · cases h
      · cases h
    · cases h
  · cases h
theorem Oi {σh : List Ob} {s ft : TypeId} {ti tf : TI} {fs : List (Nat × TypeId)} {f off : Nat} {l l' : L} {x : Value} (hT : aT C.P T) (ht : T.get s = some ti) (hk : ti.k = .struct fs) (hf : fs[f]? = some (off, ft))
  (htf : T.get ft = some tf) (hz : 0 < tf.size) (h : rC σh l off = some (true, l')) (hh : bG C β σh w) (hl : l.Rel β w (C.N β σh) [x]) : ∃ y, (Instr.fieldAt s x f).run C.P w = .ok y w ∧ l'.Rel β w (C.N β σh) [y] := by
 obtain ⟨ff, hu, rfl⟩ := (hT _ _ ht).struct hk
 simp only [List.getElem?_map, Option.map_eq_some_iff, Prod.mk.injEq, Array.getElem?_toList] at hf
 obtain ⟨fld, zIt, rfl, rfl⟩ := hf
 have zFk : ∀ (b o : Nat), (fieldPlace ⟨b, o, none⟩ fld).run C.P w = .ok ⟨b, o + fld.offset, none⟩ w := fun b o => by
  have : ¬ tf.size = 0 := by omega
  simp only [fieldPlace, Sem.run_bind, (hT _ _ htf).sizeOf, Result.andThen_ok, this, if_false, Sem.run_pure, addr_add]
 have hrun : ∀ (b o : Nat), x = .pointer (some ⟨b, o, none⟩) -> (Instr.fieldAt s x f).run C.P w = .ok (.pointer (some ⟨b, o + fld.offset, none⟩)) w := fun b o hx => by
  subst hx
  simp only [Instr.fieldAt, Sem.run_bind, run_underlying hu, Result.andThen_ok, zIt, Instr.sureAddr, Sem.run_pure, zFk]
 cases l <;> simp only [rC, reduceCtorEq, Option.some.injEq, Prod.mk.injEq, true_and] at h
 ·subst h
  simp only [L.Rel] at hl ⊢
  obtain ⟨h1, h2, b, hb, hx⟩ := hl
  simp only [List.cons.injEq, and_true] at hx
  exact ⟨_, hrun b _ hx, h1, h2, b, hb, rfl⟩
 ·subst h
  simp only [L.Rel] at hl ⊢
  obtain ⟨h1, h2, b, hb, hx⟩ := hl
  simp only [List.cons.injEq, and_true] at hx
  exact ⟨_, hrun b _ hx, h1, h2, b, hb, by rw [Nat.add_assoc]⟩
 ·split at h
  ·rename_i e t v rows wr ho
   simp only [Option.some.injEq, Prod.mk.injEq] at h
   obtain ⟨hv, rfl⟩ := h
   have hv := Nat.eq_of_beq_eq_true hv
   have hob := hh.obj _ _ ho
   simp only [Ob.Rel] at hob
   obtain ⟨_, _, hpv, _⟩ := hob
   simp only [L.Rel] at hl ⊢
   obtain ⟨h1, h2, h3, c0, hc0, h4, himp⟩ := hl
   obtain ⟨b, hb, hx⟩ := himp (by rw [hpv, hv])
   simp only [List.cons.injEq, and_true] at hc0
   rw [hx] at hc0
   exact ⟨_, hrun b _ hc0, h1, h2, h3, _, rfl, rfl, fun _ => ⟨b, hb, by rw [Nat.add_assoc]⟩⟩
  ·cases h
 ·subst h
  simp only [L.Rel] at hl ⊢
  obtain ⟨c0, hc0, b, o, cs, hx, hb, hn, hrel, hcs⟩ := hl
  simp only [List.cons.injEq, and_true] at hc0
  subst hc0
  exact ⟨_, hrun b _ hx, _, rfl, b, o, cs, by rw [Nat.add_assoc], hb, hn, hrel, hcs⟩
theorem zDx {σh : List Ob} {t : TypeId} {ti : TI} {v v' : V} {x : Value} {k : IntKind} {i : Int} (hT : aT C.P T) (ht : T.get t = some ti) (hk : ti.k = .str) (h : idx v i = some (true, v'))
  (hl : v.Rel β w (C.N β σh) x) : ∃ y, (Instr.index t x (.int k i)).run C.P w = .ok y w ∧ v'.Rel β w (C.N β σh) y := by
 unfold idx at h
 split at h
 ·rename_i s
  simp only [Option.some.injEq, Prod.mk.injEq] at h
  obtain ⟨hi, rfl⟩ := h
  obtain ⟨h0, h1, h2⟩ := mP hi
  simp only [V.Rel, L.Rel, Ty.Rel, List.cons.injEq, and_true] at hl
  subst hl
  have hget : dP 0 s i = s[i.toNat] := by
   simp only [dP, List.getD_eq_getElem?_getD]; rw [List.getElem?_eq_getElem h2]; rfl
  have hb : (ByteArray.mk s.toArray)[i.toNat]? = some s[i.toNat] := by
   have hsz : i.toNat < (ByteArray.mk s.toArray).size := by rw [size_mk]; exact h2
   rw [getElem?_pos (ByteArray.mk s.toArray) i.toNat hsz]
   rfl
  refine ⟨.int .u8 s[i.toNat].toNat, ?_, ?_⟩
  ·simp only [Instr.index, asIntOf, Sem.run_bind, Sem.run_pure, Result.andThen_ok, run_underlying ((hT _ _ ht).str hk), h0, if_true, hb]
  ·simp only [V.Rel, L.Rel, Ty.Rel, hget]
 ·cases h
theorem dB {isSlice : Bool} {n cap : Nat} {lo hi : Option Int} {kl kh : IntKind} (hc : n <= cap) (h : (bounds n lo hi).1 = true) :
  (Instr.sliceBounds isSlice n cap (lo.map (.int kl)) (hi.map (.int kh)) none).run C.P w = .ok ((bounds n lo hi).2.1, (bounds n lo hi).2.2, cap) w ∧ (bounds n lo hi).2.1 <= (bounds n lo hi).2.2 ∧ (bounds n lo hi).2.2 <= n := by
 cases lo with
 | none =>
  cases hi with
  | none => simp [Instr.sliceBounds, bounds]
  | some y =>
   simp only [bounds, Bool.and_eq_true, decide_eq_true_eq] at h
   have hy : y <= (cap : Int) := by omega
   simp only [Instr.sliceBounds, Option.map_none, Option.map_some, Sem.run_bind, Sem.run_pure, Result.andThen_ok, Instr.sliceBound, asIntOf, h.1, hy, and_self, if_true, bounds]
   exact ⟨trivial, by omega, by omega⟩
 | some x =>
  cases hi with
  | none =>
   simp only [bounds, Bool.and_eq_true, decide_eq_true_eq] at h
   simp only [Instr.sliceBounds, Option.map_none, Option.map_some, Sem.run_bind, Sem.run_pure, Result.andThen_ok, Instr.sliceBound, asIntOf, h.1, h.2, and_self, if_true, bounds]
   exact ⟨trivial, by omega, by omega⟩
  | some y =>
   simp only [bounds, Bool.and_eq_true, decide_eq_true_eq] at h
   have hy : y <= (cap : Int) := by omega
   have hx : x <= ((y.toNat : Nat) : Int) := by omega
   simp only [Instr.sliceBounds, Option.map_some, Sem.run_bind, Sem.run_pure, Result.andThen_ok, Instr.sliceBound, asIntOf, h.1.1, hy, h.2.1, hx, and_self, if_true, bounds]
   exact ⟨trivial, by omega, by omega⟩
theorem Er {α : Type} (xs : List α) (lo hi : Option Int) (h : (bounds xs.length lo hi).1 = true) : cut xs lo hi = (xs.take (bounds xs.length lo hi).2.2).drop (bounds xs.length lo hi).2.1 := by
 cases lo <;> cases hi <;> simp [cut, bounds]
theorem extract_mk (s : List UInt8) (a b : Nat) : (ByteArray.mk s.toArray).extract a b = ByteArray.mk ((s.take b).drop a).toArray := by
 apply ByteArray.ext
 rw [ByteArray.data_extract]
 simp [List.extract_eq_take_drop, List.drop_take]
theorem Yv {σh : List Ob} {t : TypeId} {ti : TI} {l l' : L} {x : Value} {lo hi : Option Int} {kl kh : IntKind} (hT : aT C.P T) (ht : T.get t = some ti) (h : slice ti.k l lo hi σh = some (true, l')) (hh : bG C β σh w)
  (hl : l.Rel β w (C.N β σh) [x]) (hte : ∀ e, ti.k = .slice e -> ∃ te, T.get e = some te ∧ (∀ a xs, l = .val (.slice a) xs -> a.size = te.size) ∧ (∀ id ver off len, l = .sl id ver off len -> te.size = (β id).size)) :
  ∃ y, (Instr.sliceAt t x (lo.map (.int kl)) (hi.map (.int kh)) none).run C.P w = .ok y w ∧ l'.Rel β w (C.N β σh) [y] := by
 have hok := hT _ _ ht
 unfold slice at h
 split at h
 ·rename_i s hk
  simp only [Option.some.injEq, Prod.mk.injEq] at h
  obtain ⟨hb, rfl⟩ := h
  simp only [L.Rel, Ty.Rel, List.cons.injEq, and_true] at hl
  subst hl
  have hu := hok.str hk
  obtain ⟨hr, _, _⟩ := dB (C := C) (w := w) (isSlice := false) (kl := kl) (kh := kh) (Nat.le_refl _) hb
  refine ⟨.string ⟨(cut s lo hi).toArray⟩, ?_, by simp only [L.Rel, Ty.Rel]⟩
  simp only [Instr.sliceAt, Instr.slice, Sem.run_bind, run_underlying hu, Result.andThen_ok, Option.isSome_none, Bool.false_eq_true, if_false, size_mk, hr, Sem.run_pure, extract_mk, Er s lo hi hb]
 ·rename_i e te xs hk
  simp only [Option.some.injEq, Prod.mk.injEq] at h
  obtain ⟨hb, rfl⟩ := h
  obtain ⟨tie, htie, hsz, _⟩ := hte e hk
  have hsz := hsz te xs rfl
  simp only [L.Rel, Ty.Rel] at hl
  obtain ⟨x', e1, hs⟩ := hl
  simp only [List.cons.injEq, and_true] at e1
  subst e1
  have hu := hok.slice hk
  rcases hs with ⟨rfl, rfl⟩ | ⟨b, off, cap, css, rfl, hbl, hn, hlc, hm, hall, hlen, hcs⟩ | ⟨ad, cap, rfl, rfl, hcm⟩
  rotate_left 2
  ·obtain ⟨hr, h3, h4⟩ := dB (C := C) (w := w) (isSlice := true) (kl := kl) (kh := kh) (Nat.zero_le cap) hb
   have hcut : cut ([] : List te.den) lo hi = [] := by rw [Er _ _ _ hb]; simp
   have h5 : (bounds 0 lo hi).2.2 = 0 := by simpa using h4
   have h6 : (bounds 0 lo hi).2.1 = 0 := by omega
   refine ⟨.slice (some (if cap = 0 then ad else ad.add (0 * tie.size))) 0 cap, ?_, by simp only [L.Rel, Ty.Rel, hcut]; exact ⟨_, rfl, .inr (.inr ⟨_, _, rfl, rfl, hcm⟩)⟩⟩
   simp only [Instr.sliceAt, Instr.slice, Sem.run_bind, run_underlying hu, Result.andThen_ok, hr, (hT _ _ htie).sizeOf, Sem.run_pure, h5, h6]
   split <;> rfl
  ·obtain ⟨hr, h3, h4⟩ := dB (C := C) (w := w) (isSlice := true) (kl := kl) (kh := kh) (Nat.le_refl 0) hb
   have hcut : cut ([] : List te.den) lo hi = [] := by rw [Er _ _ _ hb]; simp
   have h5 : (bounds 0 lo hi).2.2 = 0 := by simpa using h4
   have h6 : (bounds 0 lo hi).2.1 = 0 := by omega
   refine ⟨.slice none 0 0, ?_, by simp only [L.Rel, Ty.Rel, hcut]; exact ⟨_, rfl, .inl ⟨rfl, rfl⟩⟩⟩
   simp only [Instr.sliceAt, Instr.slice, Sem.run_bind, run_underlying hu, Result.andThen_ok, hr, (hT _ _ htie).sizeOf, Sem.run_pure, h5, h6]
   rfl
  ·obtain ⟨hr, h3, h4⟩ := dB (C := C) (w := w) (isSlice := true) (kl := kl) (kh := kh) hlc hb
   generalize hlo : (bounds xs.length lo hi).2.1 = a at *
   generalize hhi : (bounds xs.length lo hi).2.2 = c at *
   have hcut : cut xs lo hi = (xs.take c).drop a := by rw [Er _ _ _ hb, hlo, hhi]
   have Ve : ((xs.take c).drop a).length = c - a := by simp; omega
   refine ⟨.slice (some (if cap = a then ⟨b, off, none⟩ else (⟨b, off, none⟩ : Addr).add (a * tie.size))) (c - a) (cap - a), ?_, ?_⟩
   ·simp only [Instr.sliceAt, Instr.slice, Sem.run_bind, run_underlying hu, Result.andThen_ok, hr, (hT _ _ htie).sizeOf, Sem.run_pure]
    split <;> rfl
   ·simp only [L.Rel, Ty.Rel]
    refine ⟨_, rfl, .inr (.inl ⟨b, if cap = a then off else off + a * tie.size, cap - a, (css.take c).drop a, ?_, hbl, ?_, ?_, by omega, ?_, ?_, ?_⟩)⟩
    rotate_left 1
    ·intro j g1 g2
     rw [hcut, Ve] at g2
     split at g1
     ·rename_i hca
      rw [if_pos hca] at g2
      have : c - a = 0 := by omega
      rw [this] at g2
      omega
     ·rename_i hca
      rw [if_neg hca] at g2
      rw [<- hsz] at g1 g2
      have hc2 : c <= xs.length := by omega
      rcases Nat.le_total a c with hac | hac
      ·have := Uw (n := te.size) hc2 hac
       exact hn j (by omega) (by omega)
      ·rw [show c - a = 0 by omega] at g2
       omega
    rotate_left 4
    ·rw [hcut, Ve]; split <;> simp [addr_add]
    ·rw [hcut, Ve]; omega
    ·rw [hcut]; exact (hall.take c).drop a
    ·intro d hd; exact hlen d (List.mem_of_mem_take (List.mem_of_mem_drop hd))
    ·have Mc := hall.length
     split
     ·rename_i hca
      have : (css.take c).drop a = [] := by apply List.drop_eq_nil_of_le; simp; omega
      rw [this]
      exact Cells.nil
     ·have h1 : ((css.take c).drop a).flatten = (css.flatten.take (c * te.size)).drop (a * te.size) := by
       rw [fP css hlen, dM (css.take c) fun d hd => hlen d (List.mem_of_mem_take hd)]
      rw [h1, <- hsz]
      exact (hcs.take _).drop _
 ·rename_i e id ver off len hk
  split at h
  ·rename_i e' te v rows wr ho
   simp only [Option.some.injEq, Prod.mk.injEq, Bool.and_eq_true] at h
   obtain ⟨⟨kT, hb⟩, rfl⟩ := h
   have kT := Nat.eq_of_beq_eq_true kT
   obtain ⟨tie, htie, _, hsz⟩ := hte e hk
   have hsz := hsz id ver off len rfl
   have hob := hh.obj id _ ho
   simp only [Ob.Rel] at hob
   obtain ⟨hlive, lT, hpv, hpz, hpos, Vb, hob⟩ := hob
   simp only [L.Rel] at hl
   obtain ⟨_, _, zFl, c0, hc0, _, himp⟩ := hl
   have hsl := himp (by rw [hpv, kT])
   simp only [List.cons.injEq, and_true] at hc0
   subst hc0
   have hu := hok.slice hk
   unfold bP at hsl
   split at hsl
   ·rename_i hnb
    obtain ⟨rfl, rfl, rfl⟩ := hsl
    obtain ⟨hr, h3, h4⟩ := dB (C := C) (w := w) (isSlice := true) (kl := kl) (kh := kh) (Nat.le_refl 0) hb
    have h5 : (bounds 0 lo hi).2.2 = 0 := by simpa using h4
    have h6 : (bounds 0 lo hi).2.1 = 0 := by omega
    refine ⟨.slice none 0 0, ?_, ?_⟩
    ·simp only [Instr.sliceAt, Instr.slice, Sem.run_bind, run_underlying hu, Result.andThen_ok, hr, (hT _ _ htie).sizeOf, Sem.run_pure, h5, h6]
     rfl
    ·simp only [L.Rel]
     refine ⟨hlive, lT, zFl, _, rfl, rfl, fun _ => ?_⟩
     unfold bP
     rw [hnb]
     simp only [h5, h6]
     exact ⟨trivial, trivial, trivial⟩
   ·rename_i b hbb
    obtain ⟨hoff, o, rfl, ho'⟩ := hsl
    obtain ⟨hr, h3, h4⟩ := dB (C := C) (w := w) (isSlice := true) (kl := kl) (kh := kh) (n := len) (cap := (β id).cap - off) (by omega) hb
    generalize hlo : (bounds len lo hi).2.1 = a at *
    generalize hhi : (bounds len lo hi).2.2 = c at *
    refine ⟨.slice (some (if (β id).cap - off = a then ⟨b, o, none⟩ else (⟨b, o, none⟩ : Addr).add (a * tie.size))) (c - a) ((β id).cap - off - a), ?_, ?_⟩
    ·simp only [Instr.sliceAt, Instr.slice, Sem.run_bind, run_underlying hu, Result.andThen_ok, hr, (hT _ _ htie).sizeOf, Sem.run_pure]
     split <;> rfl
    ·simp only [L.Rel]
     refine ⟨hlive, lT, zFl, _, rfl, rfl, fun _ => ?_⟩
     unfold bP
     rw [hbb]
     simp only
     refine ⟨by omega, if (β id).cap - off = a then o else o + a * tie.size, ?_, ?_⟩
     ·rw [show (β id).cap - off - a = (β id).cap - (off + a) by omega]
      split <;> simp [addr_add]
     ·split
      ·by_cases h0 : off + a = 0
       ·left
        have h1 : off = 0 := by omega
        rcases ho' with h | h
        ·rw [h, h0, h1]
        ·omega
       ·right; omega
      ·rcases ho' with h | h
       ·left; rw [h, hsz, Nat.add_mul]
       ·right; omega
  ·cases h
 ·cases h
end
end Go.Dec
