/- Part of a proof over this seat: a library of my own, and what it says of this seat. No statement is proved here. -/
import Derived.Test.YtclpnkdjjhclnaaGreatDoorPartAA
import Derived.Laws.Cells
import Derived.Laws.Slices
namespace Go.Dec
def gY : List L -> Nat -> Option (List L × List L)
 | ls, 0 => some ([], ls)
 | [], _ + 1 => none
 | l :: r, n + 1 => if l.size <= n + 1 then (gY r (n + 1 - l.size)).map fun p => (l :: p.1, p.2) else none
section split
variable {β : Nat -> Pl} {w : World} {N : Nat -> Nat -> Prop}
def lI (ls : List L) (off size : Nat) : Option (List L) :=
 match gY ls off with
 | some (_, b) => (gY b size).map (·.1)
 | none => none
def tF (ls : List L) (off : Nat) (new : List L) : Option (List L) :=
 match gY ls off with
 | some (a, b) => (gY b (sizes new)).map fun p => a ++ (new ++ p.2)
 | none => none
end split
inductive TK where
 | bool | int (k : IntKind) | str | slice (e : TypeId) | arr (n : Nat) (e : TypeId) | struct (fs : List (Nat × TypeId)) | ptr (e : TypeId) | func | iface (empty : Bool) | map (k e : TypeId) | other
def TK.of : TypeDesc -> TK
 | .bool => .bool
 | .int k => .int k
 | .string => .str
 | .slice e => .slice e
 | .array n e => .arr n e
 | .struct fs => .struct (fs.toList.map fun f => (f.offset, f.type))
 | .pointer e => .ptr e
 | .func .. => .func
 | .interface ms => .iface ms.isEmpty
 | .map k e => .map k e
 | _ => .other
def TK.isAgg : TK -> Bool
 | .arr .. | .struct _ => true
 | _ => false
structure TI where
 k : TK
 size : Nat
 bytes : Nat
 zls : List L
 ty : Option Ty
 eqs : Bool
def aQ (P : Program) : Nat -> TypeId -> Option Ty
 | 0, _ => none
 | n + 1, t =>
  match P.underlying t with
  | some .bool => some .bool
  | some (.int k) => some (.int k)
  | some .string => some .str
  | some (.slice e) => (aQ P n e).map .slice
  | some (.array k e) => (aQ P n e).map (.arr k)
  | some (.struct fs) => fs.toList.foldr (fun f r => match aQ P n f.type, r with | some a, some b => some (.pair a b) | _, _ => none) (some .unit)
  | some (.interface _) => some .err
  | some (.func ..) => some .opq
  | _ => none
def zOK (ls : List L) (cs : List Value) : Prop := ∀ (β : Nat -> Pl) (w : World) (N : Nat -> Nat -> Prop), aI β w N ls cs
theorem zOK.append {a b : List L} {c d : List Value} (h : zOK a c) (h' : zOK b d) : zOK (a ++ b) (c ++ d) := fun β w N => (h β w N).append (h' β w N)
def eqF (P : Program) (g : TypeId -> Bool) (h : TypeId -> Option Ty) : Nat -> List Field -> Bool
 | _, [] => true
 | off, f :: fs => f.offset == off && !(f.name == "_") && g f.type && (match h f.type with | some a => a.size == P.cellsOf f.type | none => false) && eqF P g h (off + P.cellsOf f.type) fs
def kJ (P : Program) : Nat -> TypeId -> Bool
 | 0, _ => false
 | n + 1, t =>
  match P.underlying t with
  | some .bool | some (.int _) | some .string => true
  | some (.struct fs) => !P.stoodInHeld t && eqF P (kJ P n) (aQ P n) 0 fs.toList
  | some (.array _ e) => kJ P n e && (match aQ P n e with | some a => a.size == P.cellsOf e | none => false)
  | _ => false
def jT : Value -> Bool
 | .agg _ => true
 | _ => false
structure dJ (P : Program) (t : TypeId) (ti : TI) : Prop where
 i : ∃ (i : TypeInfo) (z : Value), P.info? t = some i ∧ i.size = ti.size ∧ i.bytes = ti.bytes ∧ i.zero = some z ∧ zOK ti.zls z.cells.toList ∧ z.cells.size = i.size ∧ ti.k.isAgg = jT z
 und : ∃ d, P.underlying t = some d ∧ TK.of d = ti.k
 ty : aQ P 12 t = ti.ty
 eqs : ti.eqs = true -> P.eqGuardType P.depth t = false ∧ kJ P 12 t = true
abbrev Tab := List (TypeId × TI)
def Tab.get : Tab -> TypeId -> Option TI
 | [], _ => none
 | p :: r, t => if Nat.beq p.1 t then some p.2 else Tab.get r t
end Go.Dec
namespace Go.Dec
def V.leaves : V -> Option (List L)
 | .one l => some [l]
 | .agg ls => some ls
 | _ => none
def mkV (agg : Bool) (ls : List L) : Option V :=
 match agg, ls with
 | true, ls => some (.agg ls)
 | false, [l] => some (.one l)
 | _, _ => none
def un (op : UnOp) (x : L) : Option (Bool × L) :=
 match op, x with
 | .not, .val .bool b => some (true, .val .bool (!b))
 | .neg, .val (.int k) n => some (true, .val (.int k) (k.wrap (0 - n)))
 | _, _ => none
def inB (i : Int) (n : Nat) : Bool := decide (0 <= i) && decide (i < (n : Int))
def tH {α : Type} (d : α) (xs : List α) (i : Int) : α := xs.getD i.toNat d
def rO (h : List Ob) (l : L) (off : Nat) : Option (Bool × L) :=
 match l with
 | .ptr id o => some (true, .ptr id (o + off))
 | .bY id o es i sub => some (true, .bY id o es i (sub + off))
 | .bE id ver i o =>
  match h[id]? with
  | some (.arr _ _ v _ _) => some (Nat.beq v ver, .bE id ver i (o + off))
  | _ => none
 | .cK t x o => some (true, .cK t x (o + off))
 | _ => none
def L.view (h : List Ob) : L -> L
 | .own id ver =>
  match h[id]? with
  | some (.arr _ _ _ rows _) => .sl id ver 0 rows.length
  | _ => .bad 1
 | l => l
def Np (h : List Ob) : L -> Option (Bool × Int)
 | .val (.slice _) xs => some (true, (xs.length : Int))
 | .bH => some (true, 0)
 | .sl id ver _ len =>
  match h[id]? with
  | some (.arr _ _ v _ _) => some (Nat.beq v ver, (len : Int))
  | _ => none
 | _ => none
def vJ (T : Tab) (h : List Ob) (k : TK) (x : L) (i : Int) : Option (Bool × L) :=
 match k, x with
 | .slice e, .val (.slice te) xs =>
  match T.get e with
  | some ti => if ti.size = te.size then some (inB i xs.length, .cK te (tH te.dflt xs i) 0) else none
  | none => none
 | .slice e, .sl id ver off len =>
  match h[id]?, T.get e with
  | some (.arr _ t v rows _), some ti => if ti.size = t.size then some (Nat.beq v ver && inB i len && decide (off + len <= rows.length), .bE id ver (off + i.toNat) 0) else none
  | _, _ => none
 | .arr n e, .ptr id off =>
  match T.get e with
  | some ti => some (inB i n, .bY id off ti.size i.toNat 0)
  | none => none
 | .arr n e, .cK t0 x0 off =>
  match T.get e with
  | some ti =>
   match lI (explode t0 x0) off (n * ti.size) with
   | some [.val (.arr m te) xs] => if m = n ∧ ti.size = te.size then some (inB i n, .cK te (tH te.dflt xs i) 0) else none
   | _ => none
  | none => none
 | _, _ => none
def loadAt (T : Tab) (h : List Ob) (t : TypeId) (x : L) : Option (Bool × V) :=
 match T.get t with
 | none => none
 | some ti =>
  match x with
  | .ptr id off =>
   match h[id]? with
   | some (.box _ ls) =>
    match lI ls off ti.size with
    | some c => (mkV ti.k.isAgg c).map fun v => (true, v)
    | none => none
   | _ => none
  | .bY id off es i sub =>
   match h[id]? with
   | some (.box _ ls) =>
    match gY ls off with
    | some (_, .val (.arr n te) xs :: _) =>
     if te.size = es then
      match lI (explode te (xs.getD i te.dflt)) sub ti.size with
      | some c => (mkV ti.k.isAgg c).map fun v => (decide (i < n), v)
      | none => none
     else none
    | _ => none
   | _ => none
  | .bE id ver i off =>
   match h[id]? with
   | some (.arr _ te v rows _) =>
    match lI (explode te (rows.getD i te.dflt)) off ti.size with
    | some c => (mkV ti.k.isAgg c).map fun u => (Nat.beq v ver && decide (i < rows.length), u)
    | none => none
   | _ => none
  | .cK te y off =>
   match lI (explode te y) off ti.size with
   | some c => (mkV ti.k.isAgg c).map fun v => (true, v)
   | none => none
  | _ => none
def idx (x : V) (i : Int) : Option (Bool × V) :=
 match x with
 | .one (.val .str s) => some (inB i s.length, .one (.val (.int .u8) ((tH 0 s i).toNat : Int)))
 | _ => none
def bounds (n : Nat) (lo hi : Option Int) : Bool × Nat × Nat :=
 match lo, hi with
 | none, none => (true, 0, n)
 | some l, none => (decide (0 <= l) && decide (l <= (n : Int)), l.toNat, n)
 | none, some h => (decide (0 <= h) && decide (h <= (n : Int)), 0, h.toNat)
 | some l, some h => (decide (0 <= h) && decide (h <= (n : Int)) && (decide (0 <= l) && decide (l <= h)), l.toNat, h.toNat)
def cut {α : Type} (xs : List α) (lo hi : Option Int) : List α :=
 match lo, hi with
 | none, none => xs
 | some l, none => xs.drop l.toNat
 | none, some h => xs.take h.toNat
 | some l, some h => (xs.take h.toNat).drop l.toNat
def slice (k : TK) (x : L) (lo hi : Option Int) (hp : List Ob) : Option (Bool × L) :=
 match k, x with
 | .str, .val .str s => some ((bounds s.length lo hi).1, .val .str (cut s lo hi))
 | .slice _, .val (.slice te) xs => some ((bounds xs.length lo hi).1, .val (.slice te) (cut xs lo hi))
 | .slice _, .sl id ver off len =>
  match hp[id]? with
  | some (.arr _ _ v _ _) => some (Nat.beq v ver && (bounds len lo hi).1, .sl id ver (off + (bounds len lo hi).2.1) ((bounds len lo hi).2.2 - (bounds len lo hi).2.1))
  | _ => none
 | _, _ => none
def build (T : Tab) (fs : List (Nat × TypeId)) : List L -> List (Nat × V) -> Option (List L)
 | ls, [] => some ls
 | ls, (i, v) :: r =>
  match fs[i]?, v.leaves with
  | some (off, ft), some new =>
   match T.get ft with
   | some ti => if sizes new = ti.size then
     match tF ls off new with
     | some ls' => build T fs ls' r
     | none => none
    else none
   | none => none
  | _, _ => none
def ext (x : V) (i : Nat) : Option V :=
 match x with
 | .tup vs =>
  match vs[i]? with
  | some (.inl l) => some (.one l)
  | some (.inr ls) => some (.agg ls)
  | none => none
 | _ => none
def fO : V -> Option (IntKind × Int)
 | .one (.val (.int k) n) => some (k, n)
 | _ => none
def eP (σ : St) : Option Operand -> Option (Option Int)
 | none => some none
 | some x => match fO (ovl σ x) with | some (_, n) => some (some n) | none => none
def caps (σ : St) : List Operand -> Option (List L)
 | [] => some []
 | x :: r =>
  match ovl σ x, caps σ r with
  | .one l, some ls => some (l :: ls)
  | _, _ => none
end Go.Dec
namespace Go.Dec
section
variable {P : Program} {β : Nat -> Pl} {w : World} {N : Nat -> Nat -> Prop} {T : Tab}
theorem dJ.slice {t e : TypeId} {ti : TI} (h : dJ P t ti) (hk : ti.k = .slice e) : P.underlying t = some (.slice e) := by
 obtain ⟨d, hd, hk'⟩ := h.und
 rw [hk] at hk'
 cases d <;> simp only [TK.of, TK.slice.injEq, reduceCtorEq] at hk'
 subst hk'
 exact hd
theorem dJ.arr {t e : TypeId} {n : Nat} {ti : TI} (h : dJ P t ti) (hk : ti.k = .arr n e) : P.underlying t = some (.array n e) := by
 obtain ⟨d, hd, hk'⟩ := h.und
 rw [hk] at hk'
 cases d <;> simp only [TK.of, TK.arr.injEq, reduceCtorEq] at hk'
 obtain ⟨rfl, rfl⟩ := hk'
 exact hd
theorem dJ.str {t : TypeId} {ti : TI} (h : dJ P t ti) (hk : ti.k = .str) : P.underlying t = some .string := by
 obtain ⟨d, hd, hk'⟩ := h.und
 rw [hk] at hk'
 cases d <;> simp only [TK.of, reduceCtorEq] at hk'
 exact hd
theorem dJ.bool {t : TypeId} {ti : TI} (h : dJ P t ti) (hk : ti.k = .bool) : P.underlying t = some .bool := by
 obtain ⟨d, hd, hk'⟩ := h.und
 rw [hk] at hk'
 cases d <;> simp only [TK.of, reduceCtorEq] at hk'
 exact hd
theorem dJ.int {t : TypeId} {k : IntKind} {ti : TI} (h : dJ P t ti) (hk : ti.k = .int k) : P.underlying t = some (.int k) := by
 obtain ⟨d, hd, hk'⟩ := h.und
 rw [hk] at hk'
 cases d <;> simp only [TK.of, TK.int.injEq, reduceCtorEq] at hk'
 subst hk'
 exact hd
theorem dJ.ptr {t e : TypeId} {ti : TI} (h : dJ P t ti) (hk : ti.k = .ptr e) : P.underlying t = some (.pointer e) := by
 obtain ⟨d, hd, hk'⟩ := h.und
 rw [hk] at hk'
 cases d <;> simp only [TK.of, TK.ptr.injEq, reduceCtorEq] at hk'
 subst hk'
 exact hd
theorem dJ.iface {t : TypeId} {b : Bool} {ti : TI} (h : dJ P t ti) (hk : ti.k = .iface b) : ∃ ms, P.underlying t = some (.interface ms) := by
 obtain ⟨d, hd, hk'⟩ := h.und
 rw [hk] at hk'
 cases d <;> simp only [TK.of, reduceCtorEq] at hk'
 exact ⟨_, hd⟩
theorem dJ.struct {t : TypeId} {fs : List (Nat × TypeId)} {ti : TI} (h : dJ P t ti) (hk : ti.k = .struct fs) : ∃ ff : Array Field, P.underlying t = some (.struct ff) ∧ fs = ff.toList.map fun f => (f.offset, f.type) := by
 obtain ⟨d, hd, hk'⟩ := h.und
 rw [hk] at hk'
 cases d <;> simp only [TK.of, TK.struct.injEq, reduceCtorEq] at hk'
 exact ⟨_, hd, hk'.symm⟩
theorem dJ.sizeOf {t : TypeId} {ti : TI} (h : dJ P t ti) : (sizeOf t).run P w = .ok ti.size w := by
 obtain ⟨i, z, hi, hs, _⟩ := h.i
 simp [Go.sizeOf, typeInfo, hi, hs]
theorem dJ.isAgg {t : TypeId} {ti : TI} (h : dJ P t ti) : (Go.isAgg t).run P w = .ok ti.k.isAgg w := by
 obtain ⟨d, hd, hk⟩ := h.und
 rw [<- hk]
 simp only [Go.isAgg, Sem.run_bind, run_underlying hd, Result.andThen_ok]
 cases d <;> rfl
theorem Cells.of_heap {b : Nat} {cs : Array Value} {e : TypeId} {f : Nat × Nat} (h : w.heap[b]? = some (.cells cs e f)) : Cells w b 0 cs.toList := fun j c hj => by
 simp only [World.cell?, Nat.zero_add, h]
 simpa using hj
theorem Cells.sub {b o off n : Nat} {cs : List Value} (h : Cells w b o cs) : Cells w b (o + off) ((cs.drop off).take n) := (h.drop off).take n
end
end Go.Dec
namespace Go.Dec
section
variable {β : Nat -> Pl} {w : World} {T : Tab} {C : Ctx}
theorem addr_add (b o n : Nat) : (⟨b, o, none⟩ : Addr).add n = ⟨b, o + n, none⟩ := by
 simp [Addr.add_lit]
theorem fE {isSlice : Bool} {n cap : Nat} {lo hi : Option Int} {kl kh : IntKind} (hc : n <= cap) (h : (bounds n lo hi).1 = true) :
  (Instr.sliceBounds isSlice n cap (lo.map (.int kl)) (hi.map (.int kh)) none).run C.P w = .ok ((bounds n lo hi).2.1, (bounds n lo hi).2.2, cap) w ∧ (bounds n lo hi).2.1 <= (bounds n lo hi).2.2 ∧ (bounds n lo hi).2.2 <= n := by
 cases lo with
 | none =>
  cases hi with
  | none => simp [Instr.sliceBounds, bounds]
  | some y =>
   simp only [bounds, Bool.and_eq_true, decide_eq_true_eq] at h
   have hy : y <= (cap : Int) := by omega
   simp only [Instr.sliceBounds, Option.map_none, Option.map_some, Sem.run_bind, Sem.run_pure, Result.andThen_ok, Instr.sliceBound, asIntOf, h.1, hy, and_self, if_true, bounds]
   exact ⟨trivial, by omega, by omega⟩
 | some x =>
  cases hi with
  | none =>
   simp only [bounds, Bool.and_eq_true, decide_eq_true_eq] at h
   simp only [Instr.sliceBounds, Option.map_none, Option.map_some, Sem.run_bind, Sem.run_pure, Result.andThen_ok, Instr.sliceBound, asIntOf, h.1, h.2, and_self, if_true, bounds]
   exact ⟨trivial, by omega, by omega⟩
  | some y =>
   simp only [bounds, Bool.and_eq_true, decide_eq_true_eq] at h
   have hy : y <= (cap : Int) := by omega
   have hx : x <= ((y.toNat : Nat) : Int) := by omega
   simp only [Instr.sliceBounds, Option.map_some, Sem.run_bind, Sem.run_pure, Result.andThen_ok, Instr.sliceBound, asIntOf, h.1.1, hy, h.2.1, hx, and_self, if_true, bounds]
   exact ⟨trivial, by omega, by omega⟩
end
end Go.Dec
