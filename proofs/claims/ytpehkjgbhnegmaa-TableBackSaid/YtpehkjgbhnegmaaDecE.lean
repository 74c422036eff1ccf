/- The fifth part: operations that only read. No statement is proved here. -/
import Derived.Test.YtpehkjgbhnegmaaDecD
import Derived.Laws.Cells
import Derived.Laws.Slices
namespace Go.Dec

def V.leaves : V → Option (List L)
  | .one l => some [l]
  | .agg ls => some ls
  | _ => none

theorem V.leaves_rel {β : Nat → Pl} {w : World} {N : Nat → Prop} {v : V} {ls : List L} {x : Value} (h : v.leaves = some ls) (hr : v.Rel β w N x) : LsRel β w N ls x.cells.toList := by
  cases v with
  | one l =>
    simp only [V.leaves, Option.some.injEq] at h
    subst h
    have h1 := L.Rel.one hr x (by simp)
    have : x.cells = #[x] := by cases x <;> first | rfl | simp [Value.oneCell'] at h1
    rw [this]
    exact LsRel.single hr
  | agg l =>
    simp only [V.leaves, Option.some.injEq] at h
    subst h
    obtain ⟨cs, rfl, hr⟩ := hr
    exact hr
  | _ => simp [V.leaves] at h

/-- Parts, as a value of a type: an aggregate, or one. -/
def mkV (agg : Bool) (ls : List L) : Option V :=
  match agg, ls with
  | true, ls => some (.agg ls)
  | false, [l] => some (.one l)
  | _, _ => none

def un (op : UnOp) (x : L) : Option (Bool × L) :=
  match op, x with
  | .not, .val .bool b => some (true, .val .bool (!b))
  | .neg, .val (.int k) n => some (true, .val (.int k) (k.wrap (0 - n)))
  | _, _ => none

/-- A slice's elements, as far as it reaches. -/
def inB (i : Int) (n : Nat) : Bool := decide (0 ≤ i) && decide (i < (n : Int))

theorem inB_spec {i : Int} {n : Nat} (h : inB i n = true) : 0 ≤ i ∧ i < (n : Int) ∧ i.toNat < n := by
  unfold inB at h
  rw [Bool.and_eq_true] at h
  have h1 := of_decide_eq_true h.1
  have h2 := of_decide_eq_true h.2
  exact ⟨h1, h2, by omega⟩

def getAt {α : Type} (d : α) (xs : List α) (i : Int) : α := xs.getD i.toNat d

def conv (kd : TK) (ks : TK) (x : L) : Option (Bool × L) :=
  match kd, ks, x with
  | .int k, _, .val (.int _) n => some (true, .val (.int k) (k.wrap n))
  | .str, .str, .val .str s => some (true, .val .str s)
  | .str, .slice _, .val (.slice (.int .u8)) xs => some (true, .val .str (xs.map fun n => UInt8.ofNat n.toNat))
  | _, _, _ => none

def ptrField (h : List Ob) (l : L) (off : Nat) : Option (Bool × L) :=
  match l with
  | .ptr id o => some (true, .ptr id (o + off))
  | .aptr id o es i sub => some (true, .aptr id o es i (sub + off))
  | .eptr id ver i o =>
    match h[id]? with
    | some (.arr _ _ v _ _) => some (Nat.beq v ver, .eptr id ver i (o + off))
    | _ => none
  | .rptr t x o => some (true, .rptr t x (o + off))
  | _ => none

/-- A slice over the whole of a row, as one of that length. -/
def L.view (h : List Ob) : L → L
  | .own id ver =>
    match h[id]? with
    | some (.arr _ _ _ rows _) => .sl id ver 0 rows.length
    | _ => .bad 1
  | l => l

def slLen (h : List Ob) : L → Option (Bool × Int)
  | .val (.slice _) xs => some (true, (xs.length : Int))
  | .nils => some (true, 0)
  | .sl id ver _ len =>
    match h[id]? with
    | some (.arr _ _ v _ _) => some (Nat.beq v ver, (len : Int))
    | _ => none
  | _ => none

def idxAddr (T : Tab) (h : List Ob) (k : TK) (x : L) (i : Int) : Option (Bool × L) :=
  match k, x with
  | .slice e, .val (.slice te) xs =>
    match T.get e with
    | some ti => if ti.size = te.size then some (inB i xs.length, .rptr te (getAt te.dflt xs i) 0) else none
    | none => none
  | .slice e, .sl id ver off len =>
    match h[id]?, T.get e with
    | some (.arr _ t v rows _), some ti => if ti.size = t.size then some (Nat.beq v ver && inB i len && decide (off + len ≤ rows.length), .eptr id ver (off + i.toNat) 0) else none
    | _, _ => none
  | .arr n e, .ptr id off =>
    match T.get e with
    | some ti => some (inB i n, .aptr id off ti.size i.toNat 0)
    | none => none
  | .arr n e, .rptr t0 x0 off =>
    match T.get e with
    | some ti =>
      match takeLs (explode t0 x0) off (n * ti.size) with
      | some [.val (.arr m te) xs] => if m = n ∧ ti.size = te.size then some (inB i n, .rptr te (getAt te.dflt xs i) 0) else none
      | _ => none
    | none => none
  | _, _ => none

def loadAt (T : Tab) (h : List Ob) (t : TypeId) (x : L) : Option (Bool × V) :=
  match T.get t with
  | none => none
  | some ti =>
    match x with
    | .ptr id off =>
      match h[id]? with
      | some (.box _ ls) =>
        match takeLs ls off ti.size with
        | some c => (mkV ti.k.isAgg c).map fun v => (true, v)
        | none => none
      | _ => none
    | .aptr id off es i sub =>
      match h[id]? with
      | some (.box _ ls) =>
        match splitLs ls off with
        | some (_, .val (.arr n te) xs :: _) =>
          if te.size = es then
            match takeLs (explode te (xs.getD i te.dflt)) sub ti.size with
            | some c => (mkV ti.k.isAgg c).map fun v => (decide (i < n), v)
            | none => none
          else none
        | _ => none
      | _ => none
    | .eptr id ver i off =>
      match h[id]? with
      | some (.arr _ te v rows _) =>
        match takeLs (explode te (rows.getD i te.dflt)) off ti.size with
        | some c => (mkV ti.k.isAgg c).map fun u => (Nat.beq v ver && decide (i < rows.length), u)
        | none => none
      | _ => none
    | .rptr te y off =>
      match takeLs (explode te y) off ti.size with
      | some c => (mkV ti.k.isAgg c).map fun v => (true, v)
      | none => none
    | _ => none

def idx (x : V) (i : Int) : Option (Bool × V) :=
  match x with
  | .one (.val .str s) => some (inB i s.length, .one (.val (.int .u8) ((getAt 0 s i).toNat : Int)))
  | _ => none

/-- Bounds of a slice: what stands in for the length. -/
def bounds (n : Nat) (lo hi : Option Int) : Bool × Nat × Nat :=
  match lo, hi with
  | none, none => (true, 0, n)
  | some l, none => (decide (0 ≤ l) && decide (l ≤ (n : Int)), l.toNat, n)
  | none, some h => (decide (0 ≤ h) && decide (h ≤ (n : Int)), 0, h.toNat)
  | some l, some h => (decide (0 ≤ h) && decide (h ≤ (n : Int)) && (decide (0 ≤ l) && decide (l ≤ h)), l.toNat, h.toNat)

def cut {α : Type} (xs : List α) (lo hi : Option Int) : List α :=
  match lo, hi with
  | none, none => xs
  | some l, none => xs.drop l.toNat
  | none, some h => xs.take h.toNat
  | some l, some h => (xs.take h.toNat).drop l.toNat

def slice (k : TK) (x : L) (lo hi : Option Int) (hp : List Ob) : Option (Bool × L) :=
  match k, x with
  | .str, .val .str s => some ((bounds s.length lo hi).1, .val .str (cut s lo hi))
  | .slice _, .val (.slice te) xs => some ((bounds xs.length lo hi).1, .val (.slice te) (cut xs lo hi))
  | .slice _, .sl id ver off len =>
    match hp[id]? with
    | some (.arr _ _ v _ _) => some (Nat.beq v ver && (bounds len lo hi).1, .sl id ver (off + (bounds len lo hi).2.1) ((bounds len lo hi).2.2 - (bounds len lo hi).2.1))
    | _ => none
  | _, _ => none

def build (T : Tab) (fs : List (Nat × TypeId)) : List L → List (Nat × V) → Option (List L)
  | ls, [] => some ls
  | ls, (i, v) :: r =>
    match fs[i]?, v.leaves with
    | some (off, ft), some new =>
      match T.get ft with
      | some ti => if sizes new = ti.size then
          match setLs ls off new with
          | some ls' => build T fs ls' r
          | none => none
        else none
      | none => none
    | _, _ => none

def ext (x : V) (i : Nat) : Option V :=
  match x with
  | .tup vs =>
    match vs[i]? with
    | some (.inl l) => some (.one l)
    | some (.inr ls) => some (.agg ls)
    | none => none
  | _ => none

def mmInt (mx : Bool) (a b : Int) : Int := if mx then (if b > a then b else a) else (if b < a then b else a)

def intOfV : V → Option (IntKind × Int)
  | .one (.val (.int k) n) => some (k, n)
  | _ => none

def optInt (σ : St) : Option Operand → Option (Option Int)
  | none => some none
  | some x => match intOfV (ovl σ x) with | some (_, n) => some (some n) | none => none

/-- 'x == nil' (neg: 'x != nil'), where that is known. -/
def eqNil (x : L) : Option Bool :=
  match x with
  | .nilp | .nils => some true
  | .ptr .. | .aptr .. | .eptr .. | .rptr .. | .clo .. => some false
  | .val .err b => some (!b)
  | _ => none

def caps (σ : St) : List Operand → Option (List L)
  | [] => some []
  | x :: r =>
    match ovl σ x, caps σ r with
    | .one l, some ls => some (l :: ls)
    | _, _ => none

end Go.Dec
