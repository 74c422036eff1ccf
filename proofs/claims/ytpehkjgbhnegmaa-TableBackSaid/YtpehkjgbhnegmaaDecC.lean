/- The third part: what operations on scalars come to, and that the model's operations do just that. No statement is proved here. -/
import Derived.Test.YtpehkjgbhnegmaaDecB
import Derived.Laws.StructEq
import Derived.Laws.Strings
namespace Go.Dec

/-! ### Lookups in frames -/

theorem LsRel.single {β : Nat → Pl} {w : World} {N : Nat → Prop} {l : L} {c : Value} (h : l.Rel β w N [c]) : LsRel β w N [l] [c] := ⟨[c], [], rfl, h, rfl⟩

/-- A constant's part. -/
def constL : Value → L
  | .bool b => .val .bool b
  | .int k n => .val (.int k) n
  | .string s => .val .str s.data.toList
  | .pointer none => .nilp
  | .slice none 0 0 => .nils
  | .nilFunc => .val .opq .nilFunc
  | .map none => .val .opq (.map none)
  | .nilIface => .val .err false
  | .iface t v => .val .opq (.iface t v)
  | _ => .bad 1

theorem constL_rel {β : Nat → Pl} {w : World} {N : Nat → Prop} (v : Value) (h : v.oneCell' = true) : (constL v).Rel β w N [v] := by
  unfold constL
  split <;> simp only [L.Rel, Ty.Rel]
  case h_6 => exact ⟨trivial, rfl⟩
  case h_7 => exact ⟨trivial, rfl⟩
  case h_8 => exact ⟨_, rfl, .inr ⟨trivial, rfl⟩⟩
  case h_9 => exact ⟨trivial, rfl⟩
  case h_10 => exact ⟨rfl, by intro c hc; simp at hc; subst hc; exact h⟩

def constV (v : Value) : V :=
  match v with
  | .agg cs => .agg (cs.toList.map constL)
  | .tuple _ => .poison
  | v => .one (constL v)

def ovl (σ : St) : Operand → V
  | .tmp t => σ.r.getD t .poison
  | .const v => match v with
    | .agg _ | .tuple _ => .poison
    | v => .one (constL v)
  | .func f => .one (.clo f [])
  | .global _ => .poison

theorem ovl_rel {C : Ctx} {β : Nat → Pl} {σ : St} {a : Act} {w : World} (h : Sim C β σ a w) (x : Operand) : (ovl σ x).Rel β w (C.N β σ.h) (a.eval x) := by
  cases x with
  | tmp t =>
    simp only [ovl, Act.eval, List.getD_eq_getElem?_getD]
    cases ht : σ.r[t]? with
    | none => simp [V.Rel]
    | some v => simpa using h.reg t v ht
  | const v =>
    simp only [ovl, Act.eval]
    split
    · trivial
    · trivial
    · rename_i h1 h2
      exact constL_rel _ (by cases v <;> first | rfl | exact absurd rfl (h1 _) | exact absurd rfl (h2 _))
  | func f => simp only [ovl, Act.eval, V.Rel, L.Rel]; exact ⟨[], rfl, by simp only [L.Rels1]⟩
  | global g => trivial

/-! ### Scalars: two operands -/

def ibits (k : IntKind) (op : BinOp) (x y : Int) : Int :=
  let a := BitVec.ofInt k.bits x
  let b := BitVec.ofInt k.bits y
  match op with
  | .and => k.wrap (a &&& b).toNat
  | .or => k.wrap (a ||| b).toNat
  | .xor => k.wrap (a ^^^ b).toNat
  | .andNot => k.wrap (a &&& ~~~b).toNat
  | _ => 0

def ishl (k : IntKind) (x y : Int) : Int := k.wrap (x * 2 ^ (min y.toNat k.bits))
def ishr (k : IntKind) (x y : Int) : Int := x.fdiv (2 ^ (min y.toNat k.bits))

/-- The greatest length of a text that is put together. -/
def maxStr : Nat := 4611686018427387904

def bInt (op : BinOp) (k : IntKind) (a b : Int) : Option (Bool × L) :=
  match op with
  | .add => some (true, .val (.int k) (k.wrap (a + b)))
  | .sub => some (true, .val (.int k) (k.wrap (a - b)))
  | .mul => some (true, .val (.int k) (k.wrap (a * b)))
  | .quo => some (!decide (b = 0), .val (.int k) (k.wrap (a.tdiv b)))
  | .rem => some (!decide (b = 0), .val (.int k) (a.tmod b))
  | .and => some (true, .val (.int k) (ibits k .and a b))
  | .or => some (true, .val (.int k) (ibits k .or a b))
  | .xor => some (true, .val (.int k) (ibits k .xor a b))
  | .andNot => some (true, .val (.int k) (ibits k .andNot a b))
  | .eql => some (true, .val .bool (a == b))
  | .neq => some (true, .val .bool (a != b))
  | .lss => some (true, .val .bool (decide (a < b)))
  | .leq => some (true, .val .bool (decide (a ≤ b)))
  | .gtr => some (true, .val .bool (decide (a > b)))
  | .geq => some (true, .val .bool (decide (a ≥ b)))
  | _ => none

def bShift (op : BinOp) (k : IntKind) (a b : Int) : Option (Bool × L) :=
  match op with
  | .shl => some (decide (0 ≤ b), .val (.int k) (ishl k a b))
  | .shr => some (decide (0 ≤ b), .val (.int k) (ishr k a b))
  | _ => none

def bStr (op : BinOp) (a b : List UInt8) : Option (Bool × L) :=
  match op with
  | .add => some (decide (a.length + b.length ≤ maxStr), .val .str (a ++ b))
  | .eql => some (true, .val .bool (a == b))
  | .neq => some (true, .val .bool (!(a == b)))
  | .lss => some (true, .val .bool (Op.bytesLess a b))
  | .leq => some (true, .val .bool (Op.bytesLess a b || a == b))
  | .gtr => some (true, .val .bool (!(Op.bytesLess a b || a == b)))
  | .geq => some (true, .val .bool (!Op.bytesLess a b))
  | _ => none

def bBool (op : BinOp) (a b : Bool) : Option (Bool × L) :=
  match op with
  | .eql => some (true, .val .bool (a == b))
  | .neq => some (true, .val .bool (!(a == b)))
  | _ => none

def isShift : BinOp → Bool
  | .shl | .shr => true
  | _ => false

def bin (op : BinOp) (x y : L) : Option (Bool × L) :=
  match x, y with
  | .val (.int k) a, .val (.int k') b => if isShift op then bShift op k a b else if k = k' then bInt op k a b else none
  | .val .str a, .val .str b => bStr op a b
  | .val .bool a, .val .bool b => bBool op a b
  | _, _ => none

theorem toList_mk (l : List UInt8) : (ByteArray.mk l.toArray).toList = l := by
  rw [ByteArray.toList_eq]

theorem size_mk (l : List UInt8) : (ByteArray.mk l.toArray).size = l.length := by
  simp [ByteArray.size]

theorem append_mk (a b : List UInt8) : (ByteArray.mk a.toArray) ++ (ByteArray.mk b.toArray) = ByteArray.mk (a ++ b).toArray := by
  apply ByteArray.ext
  simp

section run
variable {P : Program} {β : Nat → Pl} {w : World} {N : Nat → Prop}

theorem run_bInt {op : BinOp} {k : IntKind} {a b : Int} {l : L} (xt : TypeId) (hs : isShift op = false) (h : bInt op k a b = some (true, l)) :
    ∃ v, (binOp op xt (.int k a) (.int k b)).run P w = .ok v w ∧ l.Rel β w N [v] := by
  cases op <;> simp only [bInt, Option.some.injEq, Prod.mk.injEq, reduceCtorEq, isShift] at h hs <;> (try cases hs) <;> obtain ⟨h0, rfl⟩ := h <;>
    simp only [binOp, ne_eq, not_true_eq_false, if_false, Op.intArith, Op.intBits, Op.intCmp, Op.intDiv, Sem.run_pure] <;> first
    | exact ⟨_, rfl, by simp only [L.Rel, Ty.Rel, ibits]⟩
    | (have hb : ¬ b = 0 := by simpa using h0
       simp only [hb, if_false, Sem.run_pure]
       exact ⟨_, rfl, by simp only [L.Rel, Ty.Rel]⟩)

theorem run_bShift {op : BinOp} {k k' : IntKind} {a b : Int} {l : L} (xt : TypeId) (h : bShift op k a b = some (true, l)) :
    ∃ v, (binOp op xt (.int k a) (.int k' b)).run P w = .ok v w ∧ l.Rel β w N [v] := by
  cases op <;> simp only [bShift, Option.some.injEq, Prod.mk.injEq, reduceCtorEq] at h <;> obtain ⟨h0, rfl⟩ := h <;>
    (have hb : ¬ b < 0 := by have := of_decide_eq_true h0; omega
     simp only [binOp, Op.shift, hb, if_false, Sem.run_pure]
     exact ⟨_, rfl, by simp only [L.Rel, Ty.Rel, ishl, ishr]⟩)

theorem run_bStr {op : BinOp} {a b : List UInt8} {l : L} (xt : TypeId) (h : bStr op a b = some (true, l)) :
    ∃ v, (binOp op xt (.string ⟨a.toArray⟩) (.string ⟨b.toArray⟩)).run P w = .ok v w ∧ l.Rel β w N [v] := by
  cases op <;> simp only [bStr, Option.some.injEq, Prod.mk.injEq, reduceCtorEq] at h <;> obtain ⟨h0, rfl⟩ := h <;>
    simp only [binOp, Op.stringOp, toList_mk, size_mk, append_mk, Sem.run_pure] <;> first
    | exact ⟨_, rfl, by simp only [L.Rel, Ty.Rel]⟩
    | (have hb : ¬ (((a.length + b.length : Nat) : Int) > IntKind.i64.max) := by
         have := of_decide_eq_true h0
         simp only [maxStr] at this
         simp only [IntKind.max, IntKind.signed, IntKind.bits]
         omega
       simp only [hb, if_false, Sem.run_pure]
       exact ⟨_, rfl, by simp only [L.Rel, Ty.Rel]⟩)

theorem run_bBool {op : BinOp} {a b : Bool} {l : L} (xt : TypeId) (ht : P.underlying xt = some .bool) (h : bBool op a b = some (true, l)) :
    ∃ v, (binOp op xt (.bool a) (.bool b)).run P w = .ok v w ∧ l.Rel β w N [v] := by
  cases op <;> simp only [bBool, Option.some.injEq, Prod.mk.injEq, reduceCtorEq] at h <;> obtain ⟨h0, rfl⟩ := h <;>
    (simp only [binOp, Op.equal, Op.maxDepth, Sem.run_bind, run_equalIn_bool' w _ xt a b ht, Result.andThen_ok, Sem.run_pure]
     exact ⟨_, rfl, by simp only [L.Rel, Ty.Rel]⟩)

end run
end Go.Dec
