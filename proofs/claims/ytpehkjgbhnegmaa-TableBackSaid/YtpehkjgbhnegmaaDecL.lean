/- The part L: one operation, all kinds together. No statement is proved here. -/
import Derived.Test.YtpehkjgbhnegmaaDecK
import Derived.LaidEql
import Derived.WalkSpells
namespace Go.Dec

def isNilC : Operand → Bool
  | .const (.pointer none) | .const .nilIface | .const .nilFunc | .const (.slice none 0 0) => true
  | _ => false

/-- 'x == nil', by the kind of x's type. -/
def eqNilT (k : TK) (x : L) (c : Operand) : Option Bool :=
  match k, c, x with
  | .ptr _, .const (.pointer none), .nilp => some true
  | .ptr _, .const (.pointer none), .ptr .. => some false
  | .ptr _, .const (.pointer none), .aptr .. => some false
  | .ptr _, .const (.pointer none), .rptr .. => some false
  | .iface _, .const .nilIface, .val .err b => some (!b)
  | .func, .const .nilFunc, .clo .. => some false
  | .slice _, .const (.slice none 0 0), .nils => some true
  | _, _, _ => none

def eqV (T : Tab) (xt : TypeId) (a b : List L) : Option Bool :=
  match T.get xt with
  | some ti =>
    match ti.ty with
    | some ty =>
      if ti.eqs && ty.cmp && ty.isAgg then
        match implode ty a, implode ty b with
        | some (x, []), some (y, []) => some (ty.beq x y)
        | _, _ => none
      else none
    | none => none
  | none => none

def isEq : BinOp → Bool
  | .eql | .neq => true
  | _ => false

def sgn (op : BinOp) (b : Bool) : Bool :=
  match op with
  | .neq => !b
  | _ => b

def binV (T : Tab) (σ : St) (op : BinOp) (xt : TypeId) (x y : Operand) : Option (Bool × V) :=
  if isEq op && isNilC y then
    match ovl σ x, T.get xt with
    | .one l, some ti =>
      match eqNilT ti.k l y with
      | some b => some (true, .one (.val .bool (sgn op b)))
      | none => none
    | _, _ => none
  else
    match ovl σ x, ovl σ y with
    | .one a, .one b =>
      match a, b with
      | .val .bool p, .val .bool q =>
        match T.get xt with
        | some ti => match ti.k with
          | .bool => match bBool op p q with
            | some (c, r) => some (c, .one r)
            | none => none
          | _ => none
        | none => none
      | a, b => match bin op a b with
        | some (c, r) => some (c, .one r)
        | none => none
    | .agg a, .agg b =>
      if isEq op then
        match eqV T xt a b with
        | some r => some (true, .one (.val .bool (sgn op r)))
        | none => none
      else none
    | _, _ => none

def convV (T : Tab) (σ : St) (s d : TypeId) (x : Operand) : Option (Bool × V) :=
  match T.get s, T.get d, ovl σ x with
  | some ts, some td, .one l =>
    match td.k, ts.k, l with
    | .int k, .int _, .val (.int _) n => some (true, .one (.val (.int k) (k.wrap n)))
    | .str, .str, .val .str s => some (true, .one (.val .str s))
    | _, _, _ => none
  | _, _, _ => none

/-- 'build' of a struct. -/
def vals (σ : St) : List (Nat × Operand) → List (Nat × V)
  | [] => []
  | (i, x) :: r => (i, ovl σ x) :: vals σ r

def buildV (T : Tab) (σ : St) (t : TypeId) (parts : List (Nat × Operand)) : Option (Bool × V) :=
  match T.get t with
  | some ti =>
    match ti.k with
    | .struct fs =>
      if fs.all fun p => (T.get p.2).isSome then
        match build T fs ti.zls (vals σ parts) with
        | some ls => some (true, .agg ls)
        | none => none
      else none
    | _ => none
  | none => none

/-- A row's elements, one operand each, in order. -/
def elems (σ : St) (te : Ty) : Nat → List (Nat × Operand) → Option (List te.den)
  | _, [] => some []
  | k, (i, x) :: r =>
    if Nat.beq i k then
      match (ovl σ x).leaves with
      | some ls =>
        match implode te ls, elems σ te (k + 1) r with
        | some (y, []), some ys => some (y :: ys)
        | _, _ => none
      | none => none
    else none

def elemTy (T : Tab) (t : TypeId) : Option (TypeId × Ty × TI) :=
  match T.get t with
  | some ts =>
    match ts.k with
    | .slice e =>
      match T.get e with
      | some ti =>
        match ti.ty with
        | some te => if Nat.beq ti.size te.size && Nat.ble 1 te.size && Nat.ble 1 ti.bytes then some (e, te, ti) else none
        | none => none
      | none => none
    | _ => none
  | none => none

def lenV (T : Tab) (σ : St) (t : TypeId) (x : Operand) : Option (Bool × V) :=
  match T.get t, ovl σ x with
  | some ti, .one l =>
    match ti.k with
    | .arr n _ => some (true, .one (.val (.int .i64) (n : Int)))
    | .str => match l with
      | .val .str s => some (true, .one (.val (.int .i64) (s.length : Int)))
      | _ => none
    | .slice _ => match slLen σ.h (l.view σ.h) with
      | some (c, n) => some (c, .one (.val (.int .i64) n))
      | none => none
    | _ => none
  | _, _ => none

def appendV (T : Tab) (σ : St) (t : TypeId) (s x : Operand) : Option (Bool × V × List Ob) :=
  match elemTy T t, ovl σ s, ovl σ x with
  | some (e, te, ti), .one ls, .one lx =>
    match rowsOf σ.h te lx with
    | some (c, ys) =>
      match ls with
      | .nils => some (c && Nat.ble (ys.length * ti.bytes) room, .one (.own σ.h.length 0), σ.h ++ [.arr e te 0 ys true])
      | .own id ver =>
        match σ.h[id]? with
        | some (.arr e' t' v rows true) => if h : t' = te ∧ e' = e then
            some (c && (Nat.beq v ver && Nat.ble ((rows.length + ys.length) * ti.bytes) room), .one (.own id (ver + 1)), σ.h.set id (.arr e te (ver + 1) ((h.1 ▸ rows) ++ ys) true))
          else none
        | _ => none
      | .sl id ver off len =>
        match σ.h[id]? with
        | some (.arr e' t' v rows true) => if h : t' = te ∧ e' = e then
            some (c && (Nat.beq v ver && (Nat.beq off 0 && (Nat.ble len rows.length && Nat.ble ((len + ys.length) * ti.bytes) room))), .one (.own id (ver + 1)), σ.h.set id (.arr e te (ver + 1) ((h.1 ▸ rows).take len ++ ys) true))
          else none
        | _ => none
      | _ => none
    | none => none
  | _, _, _ => none

def sToBytes (s : List UInt8) : List Int := s.map fun b => (b.toNat : Int)

/-- 'append(b, s...)', 's' a text. -/
def appendS (T : Tab) (σ : St) (t t' : TypeId) (s x : Operand) : Option (Bool × V × List Ob) :=
  match elemTy T t, T.get t', ovl σ s, ovl σ x with
  | some (e, _, ti), some tx, .one (.own id ver), .one (.val .str u) =>
    match tx.k, σ.h[id]? with
    | .str, some (.arr e' (.int .u8) v rows true) =>
      some (Nat.beq e' e && (Nat.beq ti.size 1 && (Nat.beq v ver && Nat.ble ((rows.length + u.length) * ti.bytes) room)), .one (.own id (ver + 1)), σ.h.set id (.arr e' (.int .u8) (ver + 1) (rows ++ sToBytes u) true))
    | _, _ => none
  | _, _, _, _ => none

def stepOp (T : Tab) (σ : St) (o : Oper) : Option (Bool × V × List Ob) :=
  match o.op with
  | .move x => some (true, ovl σ x, σ.h)
  | .assign x => some (true, ovl σ x, σ.h)
  | .unOp op _ x =>
    match ovl σ x with
    | .one l => match un op l with
      | some (c, r) => some (c, .one r, σ.h)
      | none => none
    | _ => none
  | .binOp op xt x y _ => match binV T σ op xt x y with
    | some (c, v) => some (c, v, σ.h)
    | none => none
  | .convert s d x => match convV T σ s d x with
    | some (c, v) => some (c, v, σ.h)
    | none => none
  | .fieldAddr s x f =>
    match T.get s, ovl σ x with
    | some ti, .one l =>
      match ti.k with
      | .struct fs =>
        match fs[f]? with
        | some (off, ft) =>
          match T.get ft with
          | some tf => if Nat.ble 1 tf.size then
              match ptrField σ.h l off with
              | some (c, r) => some (c, .one r, σ.h)
              | none => none
            else none
          | none => none
        | none => none
      | _ => none
    | _, _ => none
  | .indexAddr t x i =>
    match T.get t, ovl σ x, intOfV (ovl σ i) with
    | some ti, .one l, some (_, n) =>
      match idxAddr T σ.h ti.k (l.view σ.h) n with
      | some (c, r) => some (c, .one r, σ.h)
      | none => none
    | _, _, _ => none
  | .index t x i =>
    match T.get t, intOfV (ovl σ i) with
    | some ti, some (_, n) =>
      match ti.k with
      | .str => match idx (ovl σ x) n with
        | some (c, v) => some (c, v, σ.h)
        | none => none
      | _ => none
    | _, _ => none
  | .slice t x lo hi none =>
    match T.get t, ovl σ x, optInt σ lo, optInt σ hi with
    | some ti, .one l, some l0, some h0 =>
      match slice ti.k (l.view σ.h) l0 h0 σ.h with
      | some (c, r) =>
        match ti.k with
        | .slice e =>
          match T.get e with
          | some te =>
            match l.view σ.h with
            | .val (.slice a) _ => if Nat.beq a.size te.size then some (c, .one r, σ.h) else none
            | .sl id _ _ _ =>
              match σ.h[id]? with
              | some (.arr _ a _ _ _) => if Nat.beq a.size te.size then some (c, .one r, σ.h) else none
              | _ => none
            | _ => none
          | none => none
        | .str => some (c, .one r, σ.h)
        | _ => none
      | none => none
    | _, _, _, _ => none
  | .build t parts => match buildV T σ t parts.toList with
    | some (c, v) => some (c, v, σ.h)
    | none => none
  | .extract x i => match ext (ovl σ x) i with
    | some v => some (true, v, σ.h)
    | none => none
  | .load t x =>
    match ovl σ x with
    | .one l => match loadAt T σ.h t l with
      | some (c, v) => some (c, v, σ.h)
      | none => none
    | _ => none
  | .store t x y =>
    match ovl σ x with
    | .one l => match storeAt T σ.h t l (ovl σ y) with
      | some (c, h) => some (c, .poison, h)
      | none => none
    | _ => none
  | .nilCheck x =>
    match ovl σ x with
    | .one (.ptr id off) => some (true, .one (.ptr id off), σ.h)
    | .one (.aptr id off es i sub) => some (true, .one (.aptr id off es i sub), σ.h)
    | .one (.rptr t y off) => some (true, .one (.rptr t y off), σ.h)
    | .one (.clo f cs) => some (true, .one (.clo f cs), σ.h)
    | .one (.val .opq (.func (.func f) a b)) => some (true, .one (.val .opq (.func (.func f) a b)), σ.h)
    | _ => none
  | .makeFunc (.func f) first cs =>
    if first.size = 0 then
      match caps σ cs.toList with
      | some ls => some (true, .one (.clo f ls), σ.h)
      | none => none
    else none
  | .box e x =>
    match (ovl σ x).leaves with
    | some ls => some (true, .one (.ptr σ.h.length 0), σ.h ++ [.box e ls])
    | none => none
  | .alloc e =>
    match T.get e with
    | some ti => some (true, .one (.ptr σ.h.length 0), σ.h ++ [.box e ti.zls])
    | none => none
  | .buildSlice t n parts =>
    match elemTy T t with
    | some (e, te, _) =>
      if Nat.beq n parts.size && Nat.ble (n * te.size) 16777216 then
        match elems σ te 0 parts.toList with
        | some ys => some (true, .one (.own σ.h.length 0), σ.h ++ [.arr e te 0 ys true])
        | none => none
      else none
    | none => none
  | .makeSlice t l c =>
    match elemTy T t, intOfV (ovl σ l), intOfV (ovl σ c) with
    | some (e, te, ti), some (.i64, n), some (.i64, m) =>
      match implode te ti.zls with
      | some (z, []) => some (decide (0 ≤ n) && (decide (n = m) && Nat.ble (n.toNat * ti.bytes) room), .one (.own σ.h.length 0), σ.h ++ [.arr e te 0 (List.replicate n.toNat z) true])
      | _ => none
    | _, _, _ => none
  | .call { callee := .builtin b, args, argTypes } =>
    match b, args.toList, argTypes.toList with
    | .len, [x], [t] => match lenV T σ t x with
      | some (c, v) => some (c, v, σ.h)
      | none => none
    | .append, [s, x], [t, t'] => if Nat.beq t t' then appendV T σ t s x else appendS T σ t t' s x
    | .min, [x, y], _ =>
      match intOfV (ovl σ x), intOfV (ovl σ y) with
      | some (k, a), some (_, b) => some (true, .one (.val (.int k) (if b < a then b else a)), σ.h)
      | _, _ => none
    | .max, [x, y], _ =>
      match intOfV (ovl σ x), intOfV (ovl σ y) with
      | some (k, a), some (_, b) => some (true, .one (.val (.int k) (if b > a then b else a)), σ.h)
      | _, _ => none
    | _, _, _ => none
  | _ => none

end Go.Dec
