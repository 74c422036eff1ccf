/- Part of a proof over this seat: a library of my own, and what it says of this seat. No statement is proved here. -/
import Derived.Calls
import Derived.Laws.AppendOwn
import Derived.Laws.StructEq
import Derived.Laws.Strings
import Derived.Laws.Cells
import Derived.Laws.Slices
namespace Go.Dec

inductive Ty where
  | unit | bool | int (k : IntKind) | str | err | opq
  | pair (a b : Ty) | arr (n : Nat) (a : Ty) | slice (a : Ty)
deriving DecidableEq

@[reducible] def Ty.den : Ty → Type
  | .unit => Unit
  | .bool => Bool
  | .int _ => Int
  | .str => List UInt8
  | .err => Bool
  | .opq => Value
  | .pair a b => a.den × b.den
  | .arr _ a => List a.den
  | .slice a => List a.den

def Ty.size : Ty → Nat
  | .unit => 0
  | .pair a b => a.size + b.size
  | .arr n a => n * a.size
  | _ => 1

/-- An array's value is an aggregate of cells. -/
def Ty.isAgg : Ty → Bool
  | .arr .. | .pair .. | .unit => true
  | _ => false

def Ty.dflt : (t : Ty) → t.den
  | .unit => ()
  | .bool => false
  | .int _ => (0 : Int)
  | .str => ([] : List UInt8)
  | .err => false
  | .opq => Value.nilFunc
  | .pair a b => (a.dflt, b.dflt)
  | .arr n a => List.replicate n a.dflt
  | .slice _ => []

/-- Two lists, place by place. -/
def All2 {α β : Type} (R : α → β → Prop) : List α → List β → Prop
  | [], [] => True
  | a :: x, b :: y => R a b ∧ All2 R x y
  | _, _ => False

section all2
variable {α β : Type} {R S : α → β → Prop}
theorem All2.length : ∀ {x : List α} {y : List β}, All2 R x y → x.length = y.length
  | [], [], _ => rfl
  | _ :: _, _ :: _, h => congrArg (· + 1) (All2.length h.2)
theorem All2.mono (h : ∀ a b, R a b → S a b) : ∀ {x : List α} {y : List β}, All2 R x y → All2 S x y
  | [], [], _ => trivial
  | _ :: _, _ :: _, hx => ⟨h _ _ hx.1, All2.mono h hx.2⟩
theorem All2.get : ∀ {x : List α} {y : List β} (_ : All2 R x y) (i : Nat) (h : i < x.length) (h' : i < y.length), R x[i] y[i]
  | _ :: _, _ :: _, hx, 0, _, _ => hx.1
  | _ :: _, _ :: _, hx, i + 1, h, h' => All2.get hx.2 i (Nat.lt_of_succ_lt_succ h) (Nat.lt_of_succ_lt_succ h')
theorem All2.append : ∀ {x : List α} {y : List β} {x' : List α} {y' : List β}, All2 R x y → All2 R x' y' → All2 R (x ++ x') (y ++ y')
  | [], [], _, _, _, h => h
  | _ :: _, _ :: _, _, _, h, h' => ⟨h.1, All2.append h.2 h'⟩
theorem All2.take : ∀ {x : List α} {y : List β} (n : Nat), All2 R x y → All2 R (x.take n) (y.take n)
  | [], [], n, _ => by simp [All2]
  | _ :: _, _ :: _, 0, _ => trivial
  | _ :: _, _ :: _, n + 1, h => ⟨h.1, All2.take n h.2⟩
theorem All2.drop : ∀ {x : List α} {y : List β} (n : Nat), All2 R x y → All2 R (x.drop n) (y.drop n)
  | [], [], n, _ => by simp [All2]
  | _ :: _, _ :: _, 0, h => h
  | _ :: _, _ :: _, n + 1, h => All2.drop n h.2
theorem All2.set : ∀ {x : List α} {y : List β} (n : Nat) {a : α} {b : β}, All2 R x y → R a b → All2 R (x.set n a) (y.set n b)
  | [], [], _, _, _, _, _ => trivial
  | _ :: _, _ :: _, 0, _, _, h, h' => ⟨h', h.2⟩
  | _ :: _, _ :: _, n + 1, _, _, h, h' => ⟨h.1, All2.set n h.2 h'⟩
/-- What stands in the second list stands for something of the first. -/
theorem All2.mem_right : ∀ {x : List α} {y : List β} (_ : All2 R x y) (b : β), b ∈ y → ∃ a ∈ x, R a b
  | [], [], _, _, h => by cases h
  | _ :: _, _ :: _, h, _, .head _ => ⟨_, .head _, h.1⟩
  | _ :: _, _ :: _, h, b, .tail _ hb => let ⟨a, ha, hr⟩ := All2.mem_right h.2 b hb; ⟨a, .tail _ ha, hr⟩
theorem All2.replicate {a : α} {b : β} (h : R a b) : ∀ n, All2 R (List.replicate n a) (List.replicate n b)
  | 0 => trivial
  | n + 1 => ⟨h, All2.replicate h n⟩
theorem All2.append_left : ∀ {x x' : List α} {y : List β}, All2 R (x ++ x') y → ∃ y1 y2, y = y1 ++ y2 ∧ All2 R x y1 ∧ All2 R x' y2
  | [], _, y, h => ⟨[], y, rfl, trivial, h⟩
  | _ :: _, _, [], h => h.elim
  | _ :: _, _, b :: _, h => let ⟨y1, y2, e, h1, h2⟩ := All2.append_left h.2; ⟨b :: y1, y2, by rw [e]; rfl, ⟨h.1, h1⟩, h2⟩
end all2

theorem flatten_length {α : Type} {n : Nat} : ∀ (css : List (List α)), (∀ c ∈ css, c.length = n) → css.flatten.length = css.length * n
  | [], _ => by simp
  | c :: css, h => by
    simp only [List.flatten_cons, List.length_append, List.length_cons]
    rw [h c (.head _), flatten_length css fun c hc => h c (.tail _ hc), Nat.succ_mul, Nat.add_comm]

theorem flatten_at {α : Type} {n : Nat} : ∀ (css : List (List α)), (∀ c ∈ css, c.length = n) → ∀ i j (h : i < css.length), j < n → css.flatten[i * n + j]? = css[i][j]?
  | [], _, _, _, h, _ => by cases h
  | c :: css, hc, 0, j, _, hj => by
    have h1 := hc c (.head _)
    simp [List.getElem?_append_left, h1, hj]
  | c :: css, hc, i + 1, j, h, hj => by
    have h1 := hc c (.head _)
    have h2 := flatten_at css (fun c hc' => hc c (.tail _ hc')) i j (Nat.lt_of_succ_lt_succ h) hj
    have h3 : (i + 1) * n + j = c.length + (i * n + j) := by rw [h1, Nat.succ_mul]; omega
    rw [List.flatten_cons, h3, List.getElem?_append_right (Nat.le_add_right _ _), Nat.add_sub_cancel_left, h2]
    rfl

theorem flatten_take {α : Type} {n : Nat} : ∀ (css : List (List α)), (∀ c ∈ css, c.length = n) → ∀ k, css.flatten.take (k * n) = (css.take k).flatten
  | [], _, k => by simp
  | c :: css, hc, 0 => by simp
  | c :: css, hc, k + 1 => by
    have h1 := hc c (.head _)
    have h2 := flatten_take css (fun c hc' => hc c (.tail _ hc')) k
    have h3 : (k + 1) * n = c.length + k * n := by rw [h1, Nat.succ_mul]; omega
    rw [List.flatten_cons, h3, List.take_length_add_append, h2]
    rfl

theorem flatten_drop {α : Type} {n : Nat} : ∀ (css : List (List α)), (∀ c ∈ css, c.length = n) → ∀ k, css.flatten.drop (k * n) = (css.drop k).flatten
  | [], _, k => by simp
  | c :: css, hc, 0 => by simp
  | c :: css, hc, k + 1 => by
    have h1 := hc c (.head _)
    have h2 := flatten_drop css (fun c hc' => hc c (.tail _ hc')) k
    have h3 : (k + 1) * n = c.length + k * n := by rw [h1, Nat.succ_mul]; omega
    rw [List.flatten_cons, h3, List.drop_length_add_append, h2]
    rfl

/-- The cells at a place are these. -/
def Cells (w : World) (b off : Nat) (cs : List Value) : Prop := ∀ j c, cs[j]? = some c → w.cell? ⟨b, off + j, none⟩ = some c

theorem Cells.left {w : World} {b off : Nat} {c d : List Value} (h : Cells w b off (c ++ d)) : Cells w b off c := fun j x hx => h j x (by
  rw [List.getElem?_append_left (List.getElem?_eq_some_iff.1 hx).1]; exact hx)
theorem Cells.right {w : World} {b off : Nat} {c d : List Value} (h : Cells w b off (c ++ d)) : Cells w b (off + c.length) d := fun j x hx => by
  have := h (c.length + j) x (by rw [List.getElem?_append_right (Nat.le_add_right _ _), Nat.add_sub_cancel_left]; exact hx)
  rwa [Nat.add_assoc]
theorem Cells.append {w : World} {b off : Nat} {c d : List Value} (h1 : Cells w b off c) (h2 : Cells w b (off + c.length) d) : Cells w b off (c ++ d) := fun j x hx => by
  by_cases hj : j < c.length
  · exact h1 j x (by rwa [List.getElem?_append_left hj] at hx)
  · rw [List.getElem?_append_right (by omega)] at hx
    have := h2 (j - c.length) x hx
    rwa [show off + c.length + (j - c.length) = off + j by omega] at this
theorem Cells.nil {w : World} {b off : Nat} : Cells w b off [] := fun j x hx => by simp at hx
theorem Cells.drop {w : World} {b off : Nat} {c : List Value} (h : Cells w b off c) (n : Nat) : Cells w b (off + n) (c.drop n) := fun j x hx => by
  rw [List.getElem?_drop] at hx
  have := h (n + j) x hx
  rwa [Nat.add_assoc]
theorem Cells.take {w : World} {b off : Nat} {c : List Value} (h : Cells w b off c) (n : Nat) : Cells w b off (c.take n) := fun j x hx => by
  rw [List.getElem?_take] at hx
  split at hx
  · exact h j x hx
  · cases hx

/-- How a slice that nobody writes to lies in memory: its rows are 'R', 'N' are the blocks that it may not lie in. -/
def SlRel {α : Type} (w : World) (N : Nat → Prop) (size : Nat) (R : α → List Value → Prop) (xs : List α) (v : Value) : Prop :=
  (v = .slice none 0 0 ∧ xs = []) ∨
  (∃ b off cap css, v = .slice (some ⟨b, off, none⟩) xs.length cap ∧ b < w.heap.size ∧ ¬ N b ∧ xs.length ≤ cap ∧ cap ≤ maxLen ∧ All2 R xs css ∧ (∀ c ∈ css, c.length = size) ∧ Cells w b off css.flatten) ∨
  ∃ a cap, v = .slice (some a) 0 cap ∧ xs = [] ∧ cap ≤ maxLen

/-- How typed data lie in cells. -/
def Ty.Rel (w : World) (N : Nat → Prop) : (t : Ty) → t.den → List Value → Prop
  | .unit, _, cs => cs = []
  | .bool, b, cs => cs = [.bool b]
  | .int k, n, cs => cs = [.int k n]
  | .str, s, cs => cs = [.string ⟨s.toArray⟩]
  | .err, b, cs => ∃ v, cs = [v] ∧ ((b = true ∧ ∃ t x, v = .iface t x) ∨ (b = false ∧ v = .nilIface))
  | .opq, v, cs => cs = [v] ∧ v.oneCell' = true
  | .pair a b, x, cs => ∃ c1 c2, cs = c1 ++ c2 ∧ a.Rel w N x.1 c1 ∧ b.Rel w N x.2 c2
  | .arr n a, xs, cs => xs.length = n ∧ ∃ css, cs = css.flatten ∧ All2 (fun x c => a.Rel w N x c) xs css
  | .slice a, xs, cs => ∃ v, cs = [v] ∧ SlRel w N a.size (fun x c => a.Rel w N x c) xs v

/-- 'w'' keeps what lies outside 'N'. -/
structure Keep (N : Nat → Prop) (w w' : World) : Prop where
  size : w.heap.size ≤ w'.heap.size
  block : ∀ b, b < w.heap.size → ¬ N b → w'.heap[b]? = w.heap[b]?

theorem Keep.refl (N : Nat → Prop) (w : World) : Keep N w w := ⟨Nat.le_refl _, fun _ _ _ => rfl⟩
theorem Keep.trans {N : Nat → Prop} {a b c : World} (h : Keep N a b) (h' : Keep N b c) : Keep N a c :=
  ⟨Nat.le_trans h.size h'.size, fun k hk hn => (h'.block k (Nat.lt_of_lt_of_le hk h.size) hn).trans (h.block k hk hn)⟩
theorem Keep.weaken {N N' : Nat → Prop} {a b : World} (h : Keep N a b) (hn : ∀ k, N k → N' k) : Keep N' a b :=
  ⟨h.size, fun k hk hk' => h.block k hk fun h => hk' (hn k h)⟩
theorem Keep.cell {N : Nat → Prop} {w w' : World} (h : Keep N w w') {a : Addr} (hb : a.block < w.heap.size) (hn : ¬ N a.block) : w'.cell? a = w.cell? a :=
  World.cell?_of_block (h.block a.block hb hn)
theorem Keep.cells {N : Nat → Prop} {w w' : World} (h : Keep N w w') {b off : Nat} {cs : List Value} (hb : b < w.heap.size) (hn : ¬ N b) (hc : Cells w b off cs) : Cells w' b off cs :=
  fun j c hj => (h.cell (a := ⟨b, off + j, none⟩) hb hn).trans (hc j c hj)

theorem SlRel.mono {α : Type} {w w' : World} {N N' : Nat → Prop} {size : Nat} {R R' : α → List Value → Prop} {xs : List α} {v : Value} (hk : Keep N w w') (hN : ∀ b, b < w.heap.size → N' b → N b)
    (hR : ∀ x c, R x c → R' x c) (h : SlRel w N size R xs v) : SlRel w' N' size R' xs v := by
  rcases h with h | ⟨b, off, cap, css, hv, hb, hn, hl, hm, hr, hs, hc⟩ | h
  · exact .inl h
  · exact .inr (.inl ⟨b, off, cap, css, hv, Nat.lt_of_lt_of_le hb hk.size, fun h => hn (hN b hb h), hl, hm, hr.mono hR, hs, hk.cells hb hn hc⟩)
  · exact .inr (.inr h)

theorem Ty.Rel.mono {w w' : World} {N N' : Nat → Prop} (hk : Keep N w w') (hN : ∀ b, b < w.heap.size → N' b → N b) :
    ∀ {t : Ty} {x : t.den} {cs : List Value}, t.Rel w N x cs → t.Rel w' N' x cs
  | .unit, _, _, h => h
  | .bool, _, _, h => h
  | .int _, _, _, h => h
  | .str, _, _, h => h
  | .err, _, _, h => h
  | .opq, _, _, h => h
  | .pair a b, _, _, ⟨c1, c2, e, h1, h2⟩ => ⟨c1, c2, e, Ty.Rel.mono (t := a) hk hN h1, Ty.Rel.mono (t := b) hk hN h2⟩
  | .arr _ a, _, _, ⟨hn, css, e, h⟩ => ⟨hn, css, e, h.mono fun _ _ => Ty.Rel.mono (t := a) hk hN⟩
  | .slice a, _, _, ⟨v, e, h⟩ => ⟨v, e, h.mono hk hN fun _ _ => Ty.Rel.mono (t := a) hk hN⟩

theorem Ty.Rel.length {w : World} {N : Nat → Prop} : ∀ {t : Ty} {x : t.den} {cs : List Value}, t.Rel w N x cs → cs.length = t.size
  | .unit, _, _, h => by simp only [Ty.Rel] at h; subst h; rfl
  | .bool, _, _, h => by simp only [Ty.Rel] at h; subst h; rfl
  | .int _, _, _, h => by simp only [Ty.Rel] at h; subst h; rfl
  | .str, _, _, h => by simp only [Ty.Rel] at h; subst h; rfl
  | .err, _, _, ⟨v, e, _⟩ => by subst e; rfl
  | .opq, _, _, ⟨e, _⟩ => by subst e; rfl
  | .pair a b, _, _, ⟨c1, c2, e, h1, h2⟩ => by subst e; simp [Ty.size, Ty.Rel.length (t := a) h1, Ty.Rel.length (t := b) h2]
  | .arr n a, _, _, ⟨hn, css, e, h⟩ => by
    subst e
    rw [flatten_length (n := a.size) css fun c hc => by obtain ⟨x, _, hx⟩ := h.mem_right c hc; exact Ty.Rel.length (t := a) hx]
    rw [← h.length, hn]; rfl
  | .slice a, _, _, ⟨v, e, _⟩ => by subst e; rfl

theorem Ty.Rel.one {w : World} {N : Nat → Prop} : ∀ {t : Ty} {x : t.den} {cs : List Value}, t.Rel w N x cs → ∀ c ∈ cs, c.oneCell' = true
  | .unit, _, _, h => by simp only [Ty.Rel] at h; subst h; simp
  | .bool, _, _, h => by simp only [Ty.Rel] at h; subst h; simp [Value.oneCell']
  | .int _, _, _, h => by simp only [Ty.Rel] at h; subst h; simp [Value.oneCell']
  | .str, _, _, h => by simp only [Ty.Rel] at h; subst h; simp [Value.oneCell']
  | .err, _, _, ⟨v, e, h⟩ => by
    subst e
    rcases h with ⟨_, t, x, rfl⟩ | ⟨_, rfl⟩ <;> simp [Value.oneCell']
  | .opq, _, _, ⟨e, h⟩ => by subst e; simpa using h
  | .pair a b, _, _, ⟨c1, c2, e, h1, h2⟩ => by
    subst e
    intro c hc
    rcases List.mem_append.1 hc with hc | hc
    · exact Ty.Rel.one (t := a) h1 c hc
    · exact Ty.Rel.one (t := b) h2 c hc
  | .arr n a, _, _, ⟨hn, css, e, h⟩ => by
    subst e
    intro c hc
    obtain ⟨l, hl, hc⟩ := List.mem_flatten.1 hc
    obtain ⟨x, _, hx⟩ := h.mem_right l hl
    exact Ty.Rel.one (t := a) hx c hc
  | .slice a, _, _, ⟨v, e, h⟩ => by
    subst e
    rcases h with ⟨rfl, _⟩ | ⟨b, off, cap, css, rfl, _⟩ | ⟨a, cap, rfl, _⟩ <;> simp [Value.oneCell']

end Go.Dec

namespace Go.Dec

/-- One part of a value: data, or something of the machine. -/
inductive L where
  | val (t : Ty) (x : t.den)
  /-- into an own box -/
  | ptr (id off : Nat)
  /-- into an array that lies in an own box: cell 'sub' of element 'i', each of 'es' cells -/
  | aptr (id off es i sub : Nat)
  | nilp
  /-- nil, or into an own box -/
  | ornil (id off : Nat)
  /-- into an own row: row 'i', cell 'off' of it -/
  | eptr (id ver i off : Nat)
  /-- into memory that nobody writes: cell 'off' of 'x' -/
  | rptr (t : Ty) (x : t.den) (off : Nat)
  /-- a slice over an own row -/
  | sl (id ver off len : Nat)
  /-- a slice over the whole of an own row -/
  | own (id ver : Nat)
  /-- a slice that is nil, its type not looked at -/
  | nils
  | clo (f : Nat) (caps : List L)
  | bad (size : Nat)

inductive V where
  | one (l : L)
  | agg (ls : List L)
  | tup (vs : List (Sum L (List L)))
  | poison

inductive Ob where
  | box (e : TypeId) (ls : List L)
  | arr (e : TypeId) (t : Ty) (ver : Nat) (rows : List t.den) (wr : Bool)

def L.size : L → Nat
  | .val t _ => t.size
  | .bad n => n
  | _ => 1

/-- Where an own object lies. -/
structure Pl where
  live : Bool
  box : Bool
  ver : Nat
  blk : Option Nat
  size : Nat
  cap : Nat
  len : Nat

/-- What 'rptr' says. -/
def RP (w : World) (N : Nat → Prop) (t : Ty) (x : t.den) (off : Nat) (c : Value) : Prop :=
  ∃ b o cs, c = .pointer (some ⟨b, o + off, none⟩) ∧ b < w.heap.size ∧ ¬ N b ∧ t.Rel w N x cs ∧ Cells w b o cs

def SlOwn (p : Pl) (off len : Nat) (c : Value) : Prop :=
  match p.blk with
  | none => c = .slice none 0 0 ∧ off = 0 ∧ len = 0
  | some b => off + len ≤ p.cap ∧ ∃ o, c = .slice (some ⟨b, o, none⟩) len (p.cap - off) ∧ (o = off * p.size ∨ (off = p.cap ∧ 0 < off))

mutual
def L.Rel (β : Nat → Pl) (w : World) (N : Nat → Prop) : L → List Value → Prop
  | .val t x, cs => t.Rel w N x cs
  | .ptr id off, cs => (β id).live = true ∧ (β id).box = true ∧ ∃ b, (β id).blk = some b ∧ cs = [.pointer (some ⟨b, off, none⟩)]
  | .aptr id off es i sub, cs => (β id).live = true ∧ (β id).box = true ∧ ∃ b, (β id).blk = some b ∧ cs = [.pointer (some ⟨b, off + i * es + sub, none⟩)]
  | .nilp, cs => cs = [.pointer none]
  | .ornil id off, cs => ∃ c, cs = [c] ∧ (c = .pointer none ∨ ((β id).live = true ∧ (β id).box = true ∧ ∃ b, (β id).blk = some b ∧ c = .pointer (some ⟨b, off, none⟩)))
  | .eptr id ver i off, cs => (β id).live = true ∧ (β id).box = false ∧ ver ≤ (β id).ver ∧ ∃ c, cs = [c] ∧ c.oneCell' = true ∧
      ((β id).ver = ver → ∃ b, (β id).blk = some b ∧ c = .pointer (some ⟨b, i * (β id).size + off, none⟩))
  | .rptr t x off, cs => ∃ c, cs = [c] ∧ RP w N t x off c
  | .sl id ver off len, cs => (β id).live = true ∧ (β id).box = false ∧ ver ≤ (β id).ver ∧ ∃ c, cs = [c] ∧ c.oneCell' = true ∧ ((β id).ver = ver → SlOwn (β id) off len c)
  | .own id ver, cs => (β id).live = true ∧ (β id).box = false ∧ ver ≤ (β id).ver ∧ ∃ c, cs = [c] ∧ c.oneCell' = true ∧ ((β id).ver = ver → SlOwn (β id) 0 (β id).len c)
  | .nils, cs => cs = [.slice none 0 0]
  | .clo f caps, cs => ∃ us, cs = [.func (.func f) #[] us.toArray] ∧ L.Rels1 β w N caps us
  | .bad n, cs => cs.length = n ∧ ∀ c ∈ cs, c.oneCell' = true
/-- One value each. -/
def L.Rels1 (β : Nat → Pl) (w : World) (N : Nat → Prop) : List L → List Value → Prop
  | [], us => us = []
  | l :: ls, us => ∃ u r, us = u :: r ∧ L.Rel β w N l [u] ∧ L.Rels1 β w N ls r
end

/-- Parts, one behind the other. -/
def LsRel (β : Nat → Pl) (w : World) (N : Nat → Prop) : List L → List Value → Prop
  | [], cs => cs = []
  | l :: ls, cs => ∃ c1 c2, cs = c1 ++ c2 ∧ l.Rel β w N c1 ∧ LsRel β w N ls c2

def V1Rel (β : Nat → Pl) (w : World) (N : Nat → Prop) : Sum L (List L) → Value → Prop
  | .inl l, v => l.Rel β w N [v]
  | .inr ls, v => ∃ cs : List Value, v = .agg cs.toArray ∧ LsRel β w N ls cs

def V.Rel (β : Nat → Pl) (w : World) (N : Nat → Prop) : V → Value → Prop
  | .one l, v => l.Rel β w N [v]
  | .agg ls, v => ∃ cs : List Value, v = .agg cs.toArray ∧ LsRel β w N ls cs
  | .tup vs, v => ∃ us : List Value, v = .tuple us.toArray ∧ All2 (V1Rel β w N) vs us
  | .poison, _ => True

def Ob.Rel (β : Nat → Pl) (w : World) (N : Nat → Prop) (p : Pl) : Ob → Prop
  | .box e ls => p.live = true ∧ p.box = true ∧ ∃ b cs, p.blk = some b ∧ LsRel β w N ls cs ∧ w.heap[b]? = some (.cells cs.toArray e (0, 0))
  | .arr e t ver rows _ => p.live = true ∧ p.box = false ∧ p.ver = ver ∧ p.size = t.size ∧ 0 < t.size ∧ p.len = rows.length ∧
      ((p.blk = none ∧ rows = [] ∧ p.cap = 0) ∨
       ∃ b cur css, p.blk = some b ∧ w.heap[b]? = some (.cells cur e (0, 0)) ∧ All2 (fun x c => t.Rel w N x c) rows css ∧ cur.toList.take (rows.length * t.size) = css.flatten ∧ cur.size = p.cap * t.size ∧ rows.length ≤ p.cap ∧ p.cap ≤ maxLen)

/-- May be written. -/
def Ob.wr : Ob → Bool
  | .box .. => true
  | .arr _ _ _ _ b => b

structure St where
  r : List V
  h : List Ob

def slash : String := String.singleton (Char.ofNat 47)
/-- What is asked of the library's variables. -/
def Glob (P : Program) (w : World) : Prop := ∀ (g : Nat) (x : Global), P.globals[g]? = some x → x.name = "internal" ++ slash ++ "bytealg.MaxLen" → ∃ m : Int, w.cell? ⟨g, 0, none⟩ = some (.int .i64 m)

theorem Glob.keep {P : Program} {w w' : World} (h : Glob P w) (hk : ∀ b : Nat, b < w.heap.size → w'.heap[b]? = w.heap[b]?) : Glob P w' := by
  intro g x hx hn
  obtain ⟨m, hm⟩ := h g x hx hn
  refine ⟨m, ?_⟩
  have hlt : g < w.heap.size := by
    rcases Nat.lt_or_ge g w.heap.size with hlt | hge
    · exact hlt
    · simp [World.cell?, Array.getElem?_eq_none hge] at hm
  unfold World.cell? at *
  rw [hk g hlt]
  exact hm

/-- What a call began with: blocks that belong to others ('N0'), the world, and the blocks that it was handed to write to. -/
structure Ctx where
  P : Program
  N0 : Nat → Prop
  w0 : World
  own0 : Nat → Prop
  /-- the variables of the library's that are read -/
  glob : ∀ w' : World, (∀ b : Nat, b < w0.heap.size → ¬ own0 b → w'.heap[b]? = w0.heap[b]?) → Glob P w'
  /-- the first objects are handed in: a box stays at its block -/
  fix : List (Option Nat)

def owns (β : Nat → Pl) (h : List Ob) (b : Nat) : Prop := ∃ (id : Nat) (o : Ob), h[id]? = some o ∧ o.wr = true ∧ (β id).blk = some b

def Ctx.N (C : Ctx) (β : Nat → Pl) (h : List Ob) (b : Nat) : Prop := C.N0 b ∨ owns β h b

/-- The heap, and the world. -/
structure HSim (C : Ctx) (β : Nat → Pl) (h : List Ob) (w : World) : Prop where
  obj : ∀ (id : Nat) (o : Ob), h[id]? = some o → o.Rel β w (C.N β h) (β id)
  dead : ∀ id : Nat, h.length ≤ id → (β id).live = false
  apart : ∀ (i j : Nat) (o o' : Ob) (b : Nat), h[i]? = some o → h[j]? = some o' → (β i).blk = some b → (β j).blk = some b → i = j
  fresh : ∀ (id : Nat) (o : Ob) (b : Nat), h[id]? = some o → (β id).blk = some b → ¬ C.N0 b ∧ b < w.heap.size ∧ (C.w0.heap.size ≤ b ∨ C.own0 b)
  n0 : ∀ b : Nat, C.N0 b → b < C.w0.heap.size
  frame : ∀ b : Nat, b < C.w0.heap.size → ¬ C.own0 b → w.heap[b]? = C.w0.heap[b]?
  size : C.w0.heap.size ≤ w.heap.size
  os : w.os = C.w0.os
  tape : w.tape = C.w0.tape
  output : w.output = C.w0.output
  fixed : ∀ (j : Nat) (o : Option Nat), C.fix[j]? = some o → j < h.length ∧ ∀ b, o = some b → (β j).blk = some b ∧ (β j).box = true

structure Sim (C : Ctx) (β : Nat → Pl) (σ : St) (a : Act) (w : World) : Prop where
  heap : HSim C β σ.h w
  defers : a.defers = []
  size : σ.r.length = a.tmps.size
  reg : ∀ (i : Nat) (v : V), σ.r[i]? = some v → v.Rel β w (C.N β σ.h) (a.tmps.getD i undef)

/-! ### What keeps these relations -/

/-- The places stay, but that a row may get a new version. -/
def Moves (β β' : Nat → Pl) : Prop := ∀ id : Nat, (β id).live = true → β' id = β id ∨ ((β id).box = false ∧ (β' id).live = true ∧ (β' id).box = false ∧ (β id).ver < (β' id).ver)

theorem Moves.refl (β : Nat → Pl) : Moves β β := fun _ _ => .inl rfl
theorem Moves.trans {a b c : Nat → Pl} (h : Moves a b) (h' : Moves b c) : Moves a c := fun id hl => by
  rcases h id hl with e | ⟨h1, h2, h3, h4⟩
  · rcases h' id (e ▸ hl) with e' | ⟨g1, g2, g3, g4⟩
    · exact .inl (e'.trans e)
    · exact .inr ⟨e ▸ g1, g2, g3, e ▸ g4⟩
  · rcases h' id h2 with e' | ⟨g1, g2, g3, g4⟩
    · exact .inr ⟨h1, e' ▸ h2, e' ▸ h3, e' ▸ h4⟩
    · exact .inr ⟨h1, g2, g3, Nat.lt_trans h4 g4⟩

section mono
variable {β β' : Nat → Pl} {w w' : World} {N N' : Nat → Prop}

theorem RP.mono (hk : Keep N w w') (hN : ∀ b, b < w.heap.size → N' b → N b) {t : Ty} {x : t.den} {off : Nat} {c : Value} (h : RP w N t x off c) : RP w' N' t x off c := by
  obtain ⟨b, o, cs, hc, hb, hn, hr, hcs⟩ := h
  exact ⟨b, o, cs, hc, Nat.lt_of_lt_of_le hb hk.size, fun h => hn (hN b hb h), hr.mono hk hN, hk.cells hb hn hcs⟩

mutual
theorem L.Rel.mono (hm : Moves β β') (hk : Keep N w w') (hN : ∀ b, b < w.heap.size → N' b → N b) : ∀ {l : L} {cs : List Value}, l.Rel β w N cs → l.Rel β' w' N' cs
  | .val t x, cs, h => by simp only [L.Rel] at *; exact Ty.Rel.mono hk hN h
  | .ptr id off, cs, h => by
    simp only [L.Rel] at *
    obtain ⟨h1, h2, h3⟩ := h
    rcases hm id h1 with e | ⟨h4, _⟩
    · rw [e]; exact ⟨h1, h2, h3⟩
    · rw [h2] at h4; cases h4
  | .aptr id off es i sub, cs, h => by
    simp only [L.Rel] at *
    obtain ⟨h1, h2, h3⟩ := h
    rcases hm id h1 with e | ⟨h4, _⟩
    · rw [e]; exact ⟨h1, h2, h3⟩
    · rw [h2] at h4; cases h4
  | .nilp, cs, h => by simp only [L.Rel] at *; exact h
  | .ornil id off, cs, h => by
    simp only [L.Rel] at *
    obtain ⟨c, e, h⟩ := h
    refine ⟨c, e, ?_⟩
    rcases h with h | ⟨h1, h2, h3⟩
    · exact .inl h
    · rcases hm id h1 with e | ⟨h4, _⟩
      · rw [e]; exact .inr ⟨h1, h2, h3⟩
      · rw [h2] at h4; cases h4
  | .eptr id ver i off, cs, h => by
    simp only [L.Rel] at *
    obtain ⟨h1, h2, h3, c, h4, h5, h6⟩ := h
    rcases hm id h1 with e | ⟨h7, h8, h9, h10⟩
    · rw [e]; exact ⟨h1, h2, h3, c, h4, h5, h6⟩
    · exact ⟨h8, h9, by omega, c, h4, h5, fun hv => by omega⟩
  | .rptr t x off, cs, h => by simp only [L.Rel] at *; obtain ⟨c, hc, hr⟩ := h; exact ⟨c, hc, hr.mono hk hN⟩
  | .sl id ver off len, cs, h => by
    simp only [L.Rel] at *
    obtain ⟨h1, h2, h3, c, h4, h5, h6⟩ := h
    rcases hm id h1 with e | ⟨h7, h8, h9, h10⟩
    · rw [e]; exact ⟨h1, h2, h3, c, h4, h5, h6⟩
    · exact ⟨h8, h9, by omega, c, h4, h5, fun hv => by omega⟩
  | .own id ver, cs, h => by
    simp only [L.Rel] at *
    obtain ⟨h1, h2, h3, c, h4, h5, h6⟩ := h
    rcases hm id h1 with e | ⟨h7, h8, h9, h10⟩
    · rw [e]; exact ⟨h1, h2, h3, c, h4, h5, h6⟩
    · exact ⟨h8, h9, by omega, c, h4, h5, fun hv => by omega⟩
  | .nils, cs, h => by simp only [L.Rel] at *; exact h
  | .clo f caps, cs, h => by
    simp only [L.Rel] at *
    obtain ⟨us, hc, hr⟩ := h
    exact ⟨us, hc, L.Rels1.mono hm hk hN hr⟩
  | .bad n, cs, h => by simp only [L.Rel] at *; exact h
theorem L.Rels1.mono (hm : Moves β β') (hk : Keep N w w') (hN : ∀ b, b < w.heap.size → N' b → N b) : ∀ {ls : List L} {us : List Value}, L.Rels1 β w N ls us → L.Rels1 β' w' N' ls us
  | [], us, h => by simp only [L.Rels1] at *; exact h
  | l :: ls, us, h => by
    simp only [L.Rels1] at *
    obtain ⟨u, r, e, h1, h2⟩ := h
    exact ⟨u, r, e, L.Rel.mono hm hk hN h1, L.Rels1.mono hm hk hN h2⟩
end

theorem LsRel.mono (hm : Moves β β') (hk : Keep N w w') (hN : ∀ b, b < w.heap.size → N' b → N b) : ∀ {ls : List L} {cs : List Value}, LsRel β w N ls cs → LsRel β' w' N' ls cs
  | [], _, h => h
  | _ :: _, _, ⟨c1, c2, e, h1, h2⟩ => ⟨c1, c2, e, h1.mono hm hk hN, LsRel.mono hm hk hN h2⟩

theorem V1Rel.mono (hm : Moves β β') (hk : Keep N w w') (hN : ∀ b, b < w.heap.size → N' b → N b) : ∀ {s : Sum L (List L)} {v : Value}, V1Rel β w N s v → V1Rel β' w' N' s v
  | .inl _, _, h => L.Rel.mono hm hk hN h
  | .inr _, _, ⟨cs, e, h⟩ => ⟨cs, e, h.mono hm hk hN⟩

theorem V.Rel.mono (hm : Moves β β') (hk : Keep N w w') (hN : ∀ b, b < w.heap.size → N' b → N b) : ∀ {x : V} {v : Value}, x.Rel β w N v → x.Rel β' w' N' v
  | .one _, _, h => L.Rel.mono hm hk hN h
  | .agg _, _, ⟨cs, e, h⟩ => ⟨cs, e, h.mono hm hk hN⟩
  | .tup _, _, ⟨us, e, h⟩ => ⟨us, e, h.mono fun _ _ => V1Rel.mono hm hk hN⟩
  | .poison, _, _ => trivial
end mono

theorem L.Rel.length {β : Nat → Pl} {w : World} {N : Nat → Prop} : ∀ {l : L} {cs : List Value}, l.Rel β w N cs → cs.length = l.size
  | .val t x, _, h => by simp only [L.Rel] at h; exact h.length
  | .ptr .., _, h => by simp only [L.Rel] at h; obtain ⟨_, _, b, _, rfl⟩ := h; rfl
  | .aptr .., _, h => by simp only [L.Rel] at h; obtain ⟨_, _, b, _, rfl⟩ := h; rfl
  | .nilp, _, h => by simp only [L.Rel] at h; subst h; rfl
  | .ornil .., _, h => by simp only [L.Rel] at h; obtain ⟨c, rfl, _⟩ := h; rfl
  | .eptr .., _, h => by simp only [L.Rel] at h; obtain ⟨_, _, _, c, rfl, _⟩ := h; rfl
  | .rptr .., _, h => by simp only [L.Rel] at h; obtain ⟨c, rfl, _⟩ := h; rfl
  | .sl .., _, h => by simp only [L.Rel] at h; obtain ⟨_, _, _, c, rfl, _⟩ := h; rfl
  | .own .., _, h => by simp only [L.Rel] at h; obtain ⟨_, _, _, c, rfl, _⟩ := h; rfl
  | .nils, _, h => by simp only [L.Rel] at h; subst h; rfl
  | .clo .., _, h => by simp only [L.Rel] at h; obtain ⟨us, rfl, _⟩ := h; rfl
  | .bad n, _, h => by simp only [L.Rel] at h; exact h.1

theorem L.Rel.one {β : Nat → Pl} {w : World} {N : Nat → Prop} : ∀ {l : L} {cs : List Value}, l.Rel β w N cs → ∀ c ∈ cs, c.oneCell' = true
  | .val t x, _, h => by simp only [L.Rel] at h; exact h.one
  | .ptr .., _, h => by simp only [L.Rel] at h; obtain ⟨_, _, b, _, rfl⟩ := h; simp [Value.oneCell']
  | .aptr .., _, h => by simp only [L.Rel] at h; obtain ⟨_, _, b, _, rfl⟩ := h; simp [Value.oneCell']
  | .nilp, _, h => by simp only [L.Rel] at h; subst h; simp [Value.oneCell']
  | .ornil .., _, h => by
    simp only [L.Rel] at h
    obtain ⟨c, rfl, h⟩ := h
    rcases h with rfl | ⟨_, _, b, _, rfl⟩ <;> simp [Value.oneCell']
  | .eptr .., _, h => by simp only [L.Rel] at h; obtain ⟨_, _, _, c, rfl, h, _⟩ := h; simpa using h
  | .rptr .., _, h => by simp only [L.Rel] at h; obtain ⟨c, rfl, b, o, cs, rfl, _⟩ := h; simp [Value.oneCell']
  | .sl .., _, h => by simp only [L.Rel] at h; obtain ⟨_, _, _, c, rfl, h, _⟩ := h; simpa using h
  | .own .., _, h => by simp only [L.Rel] at h; obtain ⟨_, _, _, c, rfl, h, _⟩ := h; simpa using h
  | .nils, _, h => by simp only [L.Rel] at h; subst h; simp [Value.oneCell']
  | .clo .., _, h => by simp only [L.Rel] at h; obtain ⟨us, rfl, _⟩ := h; simp [Value.oneCell']
  | .bad n, _, h => by simp only [L.Rel] at h; exact h.2

theorem LsRel.one {β : Nat → Pl} {w : World} {N : Nat → Prop} : ∀ {ls : List L} {cs : List Value}, LsRel β w N ls cs → ∀ c ∈ cs, c.oneCell' = true
  | [], _, h => by simp only [LsRel] at h; subst h; simp
  | l :: ls, _, ⟨c1, c2, e, h1, h2⟩ => by
    subst e
    intro c hc
    rcases List.mem_append.1 hc with hc | hc
    · exact h1.one c hc
    · exact LsRel.one h2 c hc

theorem LsRel.append {β : Nat → Pl} {w : World} {N : Nat → Prop} : ∀ {ls : List L} {cs : List Value} {ls' : List L} {cs' : List Value}, LsRel β w N ls cs → LsRel β w N ls' cs' → LsRel β w N (ls ++ ls') (cs ++ cs')
  | [], _, _, _, h, h' => by simp only [LsRel] at h; subst h; exact h'
  | l :: ls, _, _, _, ⟨c1, c2, e, h1, h2⟩, h' => ⟨c1, c2 ++ _, by rw [e, List.append_assoc], h1, LsRel.append h2 h'⟩

theorem LsRel.split {β : Nat → Pl} {w : World} {N : Nat → Prop} : ∀ {ls ls' : List L} {cs : List Value}, LsRel β w N (ls ++ ls') cs → ∃ c1 c2, cs = c1 ++ c2 ∧ LsRel β w N ls c1 ∧ LsRel β w N ls' c2
  | [], _, cs, h => ⟨[], cs, rfl, rfl, h⟩
  | l :: ls, _, _, ⟨c1, c2, e, h1, h2⟩ =>
    let ⟨d1, d2, e', h3, h4⟩ := LsRel.split h2
    ⟨c1 ++ d1, d2, by rw [e, e', List.append_assoc], ⟨c1, d1, rfl, h1, h3⟩, h4⟩

def sizes (ls : List L) : Nat := ls.foldr (fun l n => l.size + n) 0

theorem LsRel.length {β : Nat → Pl} {w : World} {N : Nat → Prop} : ∀ {ls : List L} {cs : List Value}, LsRel β w N ls cs → cs.length = sizes ls
  | [], _, h => by simp only [LsRel] at h; subst h; rfl
  | l :: ls, _, ⟨c1, c2, e, h1, h2⟩ => by subst e; simp [sizes, h1.length, LsRel.length h2]

/-- A row's data, taken apart into their parts. -/
def explode : (t : Ty) → t.den → List L
  | .unit, _ => []
  | .pair a b, x => explode a x.1 ++ explode b x.2
  | .bool, x => [.val .bool x]
  | .int k, x => [.val (.int k) x]
  | .str, x => [.val .str x]
  | .err, x => [.val .err x]
  | .opq, x => [.val .opq x]
  | .arr n a, x => [.val (.arr n a) x]
  | .slice a, x => [.val (.slice a) x]

theorem explode_rel {β : Nat → Pl} {w : World} {N : Nat → Prop} : ∀ {t : Ty} {x : t.den} {cs : List Value}, t.Rel w N x cs → LsRel β w N (explode t x) cs
  | .unit, _, _, h => h
  | .pair a b, _, _, ⟨c1, c2, e, h1, h2⟩ => by subst e; exact (explode_rel (t := a) h1).append (explode_rel (t := b) h2)
  | .bool, _, _, h => ⟨_, [], (List.append_nil _).symm, by simpa only [L.Rel] using h, rfl⟩
  | .int _, _, _, h => ⟨_, [], (List.append_nil _).symm, by simpa only [L.Rel] using h, rfl⟩
  | .str, _, _, h => ⟨_, [], (List.append_nil _).symm, by simpa only [L.Rel] using h, rfl⟩
  | .err, _, _, h => ⟨_, [], (List.append_nil _).symm, by simpa only [L.Rel] using h, rfl⟩
  | .opq, _, _, h => ⟨_, [], (List.append_nil _).symm, by simpa only [L.Rel] using h, rfl⟩
  | .arr _ _, _, _, h => ⟨_, [], (List.append_nil _).symm, by simpa only [L.Rel] using h, rfl⟩
  | .slice _, _, _, h => ⟨_, [], (List.append_nil _).symm, by simpa only [L.Rel] using h, rfl⟩

/-- One part, as data of a type. -/
def L.asT (t : Ty) : L → Option t.den
  | .val t' x => if h : t' = t then some (h ▸ x) else none
  | .nils => match t with
    | .slice _ => some []
    | _ => none
  | .clo f [] => match t with
    | .opq => some (.func (.func f) #[] #[])
    | _ => none
  | _ => none

theorem L.asT_rel {β : Nat → Pl} {w : World} {N : Nat → Prop} {t : Ty} {l : L} {x : t.den} {cs : List Value} (h : l.asT t = some x) (hr : l.Rel β w N cs) : t.Rel w N x cs := by
  cases l with
  | val t' y =>
    simp only [L.asT] at h
    split at h
    · rename_i e
      subst e
      simp only [Option.some.injEq] at h
      subst h
      simpa only [L.Rel] using hr
    · cases h
  | nils =>
    simp only [L.Rel] at hr
    subst hr
    cases t with
    | slice a =>
      simp only [L.asT, Option.some.injEq] at h
      exact ⟨_, rfl, .inl ⟨rfl, h.symm⟩⟩
    | _ => simp [L.asT] at h
  | clo f caps =>
    cases caps with
    | cons _ _ => simp [L.asT] at h
    | nil =>
      simp only [L.Rel] at hr
      obtain ⟨us, rfl, hu⟩ := hr
      simp only [L.Rels1] at hu
      subst hu
      cases t with
      | opq =>
        simp only [L.asT, Option.some.injEq] at h
        subst h
        exact ⟨rfl, rfl⟩
      | _ => simp [L.asT] at h
  | _ => simp [L.asT] at h

/-- Parts, put together. -/
def implode : (t : Ty) → List L → Option (t.den × List L)
  | .unit, ls => some ((), ls)
  | .pair a b, ls =>
    match implode a ls with
    | some (x, ls) =>
      match implode b ls with
      | some (y, ls) => some ((x, y), ls)
      | none => none
    | none => none
  | .bool, l :: ls => (l.asT .bool).map (·, ls)
  | .int k, l :: ls => (l.asT (.int k)).map (·, ls)
  | .str, l :: ls => (l.asT .str).map (·, ls)
  | .err, l :: ls => (l.asT .err).map (·, ls)
  | .opq, l :: ls => (l.asT .opq).map (·, ls)
  | .arr n a, l :: ls => (l.asT (.arr n a)).map (·, ls)
  | .slice a, l :: ls => (l.asT (.slice a)).map (·, ls)
  | _, [] => none

theorem implode_leaf {β : Nat → Pl} {w : World} {N : Nat → Prop} {t : Ty} {l : L} {ls ls' : List L} {x : t.den} {cs : List Value}
    (h : (l.asT t).map (·, ls) = some (x, ls')) (hr : LsRel β w N (l :: ls) cs) : ∃ c1 c2, cs = c1 ++ c2 ∧ t.Rel w N x c1 ∧ LsRel β w N ls' c2 := by
  obtain ⟨c1, c2, e, h1, h2⟩ := hr
  cases ha : l.asT t with
  | none => rw [ha] at h; cases h
  | some y =>
    rw [ha] at h
    simp only [Option.map_some, Option.some.injEq, Prod.mk.injEq] at h
    obtain ⟨rfl, rfl⟩ := h
    exact ⟨c1, c2, e, L.asT_rel ha h1, h2⟩

theorem implode_rel {β : Nat → Pl} {w : World} {N : Nat → Prop} : ∀ {t : Ty} {ls ls' : List L} {x : t.den} {cs : List Value}, implode t ls = some (x, ls') → LsRel β w N ls cs →
    ∃ c1 c2, cs = c1 ++ c2 ∧ t.Rel w N x c1 ∧ LsRel β w N ls' c2
  | .unit, _, _, _, cs, h, hr => by
    simp only [implode, Option.some.injEq, Prod.mk.injEq] at h
    obtain ⟨_, rfl⟩ := h
    exact ⟨[], cs, rfl, rfl, hr⟩
  | .pair a b, ls, ls', x, cs, h, hr => by
    simp only [implode] at h
    split at h
    · rename_i y l1 h1
      split at h
      · rename_i z l2 h2
        simp only [Option.some.injEq, Prod.mk.injEq] at h
        obtain ⟨rfl, rfl⟩ := h
        obtain ⟨c1, c2, e1, r1, s1⟩ := implode_rel (t := a) h1 hr
        obtain ⟨d1, d2, e2, r2, s2⟩ := implode_rel (t := b) h2 s1
        exact ⟨c1 ++ d1, d2, by rw [e1, e2, List.append_assoc], ⟨c1, d1, rfl, r1, r2⟩, s2⟩
      · cases h
    · cases h
  | .bool, l :: ls, _, _, _, h, hr => by simp only [implode] at h; exact implode_leaf h hr
  | .int k, l :: ls, _, _, _, h, hr => by simp only [implode] at h; exact implode_leaf h hr
  | .str, l :: ls, _, _, _, h, hr => by simp only [implode] at h; exact implode_leaf h hr
  | .err, l :: ls, _, _, _, h, hr => by simp only [implode] at h; exact implode_leaf h hr
  | .opq, l :: ls, _, _, _, h, hr => by simp only [implode] at h; exact implode_leaf h hr
  | .arr n a, l :: ls, _, _, _, h, hr => by simp only [implode] at h; exact implode_leaf h hr
  | .slice a, l :: ls, _, _, _, h, hr => by simp only [implode] at h; exact implode_leaf h hr
  | .bool, [], _, _, _, h, _ => by simp [implode] at h
  | .int k, [], _, _, _, h, _ => by simp [implode] at h
  | .str, [], _, _, _, h, _ => by simp [implode] at h
  | .err, [], _, _, _, h, _ => by simp [implode] at h
  | .opq, [], _, _, _, h, _ => by simp [implode] at h
  | .arr n a, [], _, _, _, h, _ => by simp [implode] at h
  | .slice a, [], _, _, _, h, _ => by simp [implode] at h

end Go.Dec

namespace Go.Dec

/-! ### Lookups in frames -/

theorem LsRel.single {β : Nat → Pl} {w : World} {N : Nat → Prop} {l : L} {c : Value} (h : l.Rel β w N [c]) : LsRel β w N [l] [c] := ⟨[c], [], rfl, h, rfl⟩

/-- A constant's part. -/
def constL : Value → L
  | .bool b => .val .bool b
  | .int k n => .val (.int k) n
  | .string s => .val .str s.data.toList
  | .pointer none => .nilp
  | .slice none 0 0 => .nils
  | .nilFunc => .val .opq .nilFunc
  | .map none => .val .opq (.map none)
  | .nilIface => .val .err false
  | .iface t v => .val .opq (.iface t v)
  | _ => .bad 1

theorem constL_rel {β : Nat → Pl} {w : World} {N : Nat → Prop} (v : Value) (h : v.oneCell' = true) : (constL v).Rel β w N [v] := by
  unfold constL
  split <;> simp only [L.Rel, Ty.Rel]
  case h_6 => exact ⟨trivial, rfl⟩
  case h_7 => exact ⟨trivial, rfl⟩
  case h_8 => exact ⟨_, rfl, .inr ⟨trivial, rfl⟩⟩
  case h_9 => exact ⟨trivial, rfl⟩
  case h_10 => exact ⟨rfl, by intro c hc; simp at hc; subst hc; exact h⟩

def constV (v : Value) : V :=
  match v with
  | .agg cs => .agg (cs.toList.map constL)
  | .tuple _ => .poison
  | v => .one (constL v)

def ovl (σ : St) : Operand → V
  | .tmp t => σ.r.getD t .poison
  | .const v => match v with
    | .agg _ | .tuple _ => .poison
    | v => .one (constL v)
  | .func f => .one (.clo f [])
  | .global _ => .poison

theorem ovl_rel {C : Ctx} {β : Nat → Pl} {σ : St} {a : Act} {w : World} (h : Sim C β σ a w) (x : Operand) : (ovl σ x).Rel β w (C.N β σ.h) (a.eval x) := by
  cases x with
  | tmp t =>
    simp only [ovl, Act.eval, List.getD_eq_getElem?_getD]
    cases ht : σ.r[t]? with
    | none => simp [V.Rel]
    | some v => simpa using h.reg t v ht
  | const v =>
    simp only [ovl, Act.eval]
    split
    · trivial
    · trivial
    · rename_i h1 h2
      exact constL_rel _ (by cases v <;> first | rfl | exact absurd rfl (h1 _) | exact absurd rfl (h2 _))
  | func f => simp only [ovl, Act.eval, V.Rel, L.Rel]; exact ⟨[], rfl, by simp only [L.Rels1]⟩
  | global g => trivial

/-! ### Scalars: two operands -/

def ibits (k : IntKind) (op : BinOp) (x y : Int) : Int :=
  let a := BitVec.ofInt k.bits x
  let b := BitVec.ofInt k.bits y
  match op with
  | .and => k.wrap (a &&& b).toNat
  | .or => k.wrap (a ||| b).toNat
  | .xor => k.wrap (a ^^^ b).toNat
  | .andNot => k.wrap (a &&& ~~~b).toNat
  | _ => 0

def ishl (k : IntKind) (x y : Int) : Int := k.wrap (x * 2 ^ (min y.toNat k.bits))
def ishr (k : IntKind) (x y : Int) : Int := x.fdiv (2 ^ (min y.toNat k.bits))

/-- The greatest length of a text that is put together. -/
def maxStr : Nat := 4611686018427387904

def bInt (op : BinOp) (k : IntKind) (a b : Int) : Option (Bool × L) :=
  match op with
  | .add => some (true, .val (.int k) (k.wrap (a + b)))
  | .sub => some (true, .val (.int k) (k.wrap (a - b)))
  | .mul => some (true, .val (.int k) (k.wrap (a * b)))
  | .quo => some (!decide (b = 0), .val (.int k) (k.wrap (a.tdiv b)))
  | .rem => some (!decide (b = 0), .val (.int k) (a.tmod b))
  | .and => some (true, .val (.int k) (ibits k .and a b))
  | .or => some (true, .val (.int k) (ibits k .or a b))
  | .xor => some (true, .val (.int k) (ibits k .xor a b))
  | .andNot => some (true, .val (.int k) (ibits k .andNot a b))
  | .eql => some (true, .val .bool (a == b))
  | .neq => some (true, .val .bool (a != b))
  | .lss => some (true, .val .bool (decide (a < b)))
  | .leq => some (true, .val .bool (decide (a ≤ b)))
  | .gtr => some (true, .val .bool (decide (a > b)))
  | .geq => some (true, .val .bool (decide (a ≥ b)))
  | _ => none

def bShift (op : BinOp) (k : IntKind) (a b : Int) : Option (Bool × L) :=
  match op with
  | .shl => some (decide (0 ≤ b), .val (.int k) (ishl k a b))
  | .shr => some (decide (0 ≤ b), .val (.int k) (ishr k a b))
  | _ => none

def bStr (op : BinOp) (a b : List UInt8) : Option (Bool × L) :=
  match op with
  | .add => some (decide (a.length + b.length ≤ maxStr), .val .str (a ++ b))
  | .eql => some (true, .val .bool (a == b))
  | .neq => some (true, .val .bool (!(a == b)))
  | .lss => some (true, .val .bool (Op.bytesLess a b))
  | .leq => some (true, .val .bool (Op.bytesLess a b || a == b))
  | .gtr => some (true, .val .bool (!(Op.bytesLess a b || a == b)))
  | .geq => some (true, .val .bool (!Op.bytesLess a b))
  | _ => none

def bBool (op : BinOp) (a b : Bool) : Option (Bool × L) :=
  match op with
  | .eql => some (true, .val .bool (a == b))
  | .neq => some (true, .val .bool (!(a == b)))
  | _ => none

def isShift : BinOp → Bool
  | .shl | .shr => true
  | _ => false

def bin (op : BinOp) (x y : L) : Option (Bool × L) :=
  match x, y with
  | .val (.int k) a, .val (.int k') b => if isShift op then bShift op k a b else if k = k' then bInt op k a b else none
  | .val .str a, .val .str b => bStr op a b
  | .val .bool a, .val .bool b => bBool op a b
  | _, _ => none

theorem toList_mk (l : List UInt8) : (ByteArray.mk l.toArray).toList = l := by
  rw [ByteArray.toList_eq]

theorem size_mk (l : List UInt8) : (ByteArray.mk l.toArray).size = l.length := by
  simp [ByteArray.size]

theorem append_mk (a b : List UInt8) : (ByteArray.mk a.toArray) ++ (ByteArray.mk b.toArray) = ByteArray.mk (a ++ b).toArray := by
  apply ByteArray.ext
  simp

section run
variable {P : Program} {β : Nat → Pl} {w : World} {N : Nat → Prop}

theorem run_bInt {op : BinOp} {k : IntKind} {a b : Int} {l : L} (xt : TypeId) (hs : isShift op = false) (h : bInt op k a b = some (true, l)) :
    ∃ v, (binOp op xt (.int k a) (.int k b)).run P w = .ok v w ∧ l.Rel β w N [v] := by
  cases op <;> simp only [bInt, Option.some.injEq, Prod.mk.injEq, reduceCtorEq, isShift] at h hs <;> (try cases hs) <;> obtain ⟨h0, rfl⟩ := h <;>
    simp only [binOp, ne_eq, not_true_eq_false, if_false, Op.intArith, Op.intBits, Op.intCmp, Op.intDiv, Sem.run_pure] <;> first
    | exact ⟨_, rfl, by simp only [L.Rel, Ty.Rel, ibits]⟩
    | (have hb : ¬ b = 0 := by simpa using h0
       simp only [hb, if_false, Sem.run_pure]
       exact ⟨_, rfl, by simp only [L.Rel, Ty.Rel]⟩)

theorem run_bShift {op : BinOp} {k k' : IntKind} {a b : Int} {l : L} (xt : TypeId) (h : bShift op k a b = some (true, l)) :
    ∃ v, (binOp op xt (.int k a) (.int k' b)).run P w = .ok v w ∧ l.Rel β w N [v] := by
  cases op <;> simp only [bShift, Option.some.injEq, Prod.mk.injEq, reduceCtorEq] at h <;> obtain ⟨h0, rfl⟩ := h <;>
    (have hb : ¬ b < 0 := by have := of_decide_eq_true h0; omega
     simp only [binOp, Op.shift, hb, if_false, Sem.run_pure]
     exact ⟨_, rfl, by simp only [L.Rel, Ty.Rel, ishl, ishr]⟩)

theorem run_bStr {op : BinOp} {a b : List UInt8} {l : L} (xt : TypeId) (h : bStr op a b = some (true, l)) :
    ∃ v, (binOp op xt (.string ⟨a.toArray⟩) (.string ⟨b.toArray⟩)).run P w = .ok v w ∧ l.Rel β w N [v] := by
  cases op <;> simp only [bStr, Option.some.injEq, Prod.mk.injEq, reduceCtorEq] at h <;> obtain ⟨h0, rfl⟩ := h <;>
    simp only [binOp, Op.stringOp, toList_mk, size_mk, append_mk, Sem.run_pure] <;> first
    | exact ⟨_, rfl, by simp only [L.Rel, Ty.Rel]⟩
    | (have hb : ¬ (((a.length + b.length : Nat) : Int) > IntKind.i64.max) := by
         have := of_decide_eq_true h0
         simp only [maxStr] at this
         simp only [IntKind.max, IntKind.signed, IntKind.bits]
         omega
       simp only [hb, if_false, Sem.run_pure]
       exact ⟨_, rfl, by simp only [L.Rel, Ty.Rel]⟩)

theorem run_bBool {op : BinOp} {a b : Bool} {l : L} (xt : TypeId) (ht : P.underlying xt = some .bool) (h : bBool op a b = some (true, l)) :
    ∃ v, (binOp op xt (.bool a) (.bool b)).run P w = .ok v w ∧ l.Rel β w N [v] := by
  cases op <;> simp only [bBool, Option.some.injEq, Prod.mk.injEq, reduceCtorEq] at h <;> obtain ⟨h0, rfl⟩ := h <;>
    (simp only [binOp, Op.equal, Op.maxDepth, Sem.run_bind, run_equalIn_bool' w _ xt a b ht, Result.andThen_ok, Sem.run_pure]
     exact ⟨_, rfl, by simp only [L.Rel, Ty.Rel]⟩)

end run
end Go.Dec

namespace Go.Dec

/-! ### Parts by places -/

def splitLs : List L → Nat → Option (List L × List L)
  | ls, 0 => some ([], ls)
  | [], _ + 1 => none
  | l :: r, n + 1 => if l.size ≤ n + 1 then (splitLs r (n + 1 - l.size)).map fun p => (l :: p.1, p.2) else none

section split
variable {β : Nat → Pl} {w : World} {N : Nat → Prop}

theorem splitLs_rel : ∀ {ls : List L} {n : Nat} {a b : List L} {cs : List Value}, splitLs ls n = some (a, b) → LsRel β w N ls cs →
    LsRel β w N a (cs.take n) ∧ LsRel β w N b (cs.drop n) ∧ n ≤ cs.length
  | ls, 0, a, b, cs, h, hr => by
    have : splitLs ls 0 = some ([], ls) := by cases ls <;> rfl
    rw [this] at h
    simp only [Option.some.injEq, Prod.mk.injEq] at h
    obtain ⟨rfl, rfl⟩ := h
    simpa [LsRel] using hr
  | [], _ + 1, _, _, _, h, _ => by simp [splitLs] at h
  | l :: r, n + 1, a, b, cs, h, hr => by
    simp only [splitLs] at h
    split at h
    · rename_i hle
      obtain ⟨c1, c2, rfl, h1, h2⟩ := hr
      cases hs : splitLs r (n + 1 - l.size) with
      | none => rw [hs] at h; cases h
      | some p =>
        rw [hs] at h
        simp only [Option.map_some, Option.some.injEq, Prod.mk.injEq] at h
        obtain ⟨rfl, rfl⟩ := h
        obtain ⟨g1, g2, g3⟩ := splitLs_rel (a := p.1) (b := p.2) hs h2
        have hl := h1.length
        refine ⟨?_, ?_, ?_⟩
        · rw [List.take_append, hl, List.take_of_length_le (by omega)]
          exact ⟨c1, _, rfl, h1, g1⟩
        · rw [List.drop_append, hl, List.drop_of_length_le (by omega), List.nil_append]
          exact g2
        · rw [List.length_append]; omega
    · cases h

def takeLs (ls : List L) (off size : Nat) : Option (List L) :=
  match splitLs ls off with
  | some (_, b) => (splitLs b size).map (·.1)
  | none => none

theorem takeLs_rel {ls c : List L} {off size : Nat} {cs : List Value} (h : takeLs ls off size = some c) (hr : LsRel β w N ls cs) :
    LsRel β w N c ((cs.drop off).take size) ∧ off + size ≤ cs.length := by
  unfold takeLs at h
  split at h
  · rename_i a b hs
    cases ht : splitLs b size with
    | none => rw [ht] at h; cases h
    | some p =>
      rw [ht] at h
      simp only [Option.map_some, Option.some.injEq] at h
      subst h
      obtain ⟨_, g2, g3⟩ := splitLs_rel hs hr
      obtain ⟨k1, _, k3⟩ := splitLs_rel (a := p.1) (b := p.2) ht g2
      rw [List.length_drop] at k3
      exact ⟨k1, by omega⟩
  · cases h

def setLs (ls : List L) (off : Nat) (new : List L) : Option (List L) :=
  match splitLs ls off with
  | some (a, b) => (splitLs b (sizes new)).map fun p => a ++ (new ++ p.2)
  | none => none

theorem setLs_rel {ls new ls' : List L} {off : Nat} {cs ds : List Value} (h : setLs ls off new = some ls') (hr : LsRel β w N ls cs) (hd : LsRel β w N new ds) :
    LsRel β w N ls' (cs.take off ++ (ds ++ cs.drop (off + ds.length))) ∧ off + ds.length ≤ cs.length := by
  unfold setLs at h
  split at h
  · rename_i a b hs
    cases ht : splitLs b (sizes new) with
    | none => rw [ht] at h; cases h
    | some p =>
      rw [ht] at h
      simp only [Option.map_some, Option.some.injEq] at h
      subst h
      obtain ⟨g1, g2, g3⟩ := splitLs_rel hs hr
      obtain ⟨_, k2, k3⟩ := splitLs_rel (a := p.1) (b := p.2) ht g2
      have hl := hd.length
      rw [List.length_drop] at k3
      rw [List.drop_drop] at k2
      refine ⟨g1.append (hd.append ?_), by omega⟩
      rw [hl]
      exact k2
  · cases h
end split

/-! ### Types -/

inductive TK where
  | bool | int (k : IntKind) | str | slice (e : TypeId) | arr (n : Nat) (e : TypeId) | struct (fs : List (Nat × TypeId)) | ptr (e : TypeId) | func | iface (empty : Bool) | map (k e : TypeId) | other

def TK.of : TypeDesc → TK
  | .bool => .bool
  | .int k => .int k
  | .string => .str
  | .slice e => .slice e
  | .array n e => .arr n e
  | .struct fs => .struct (fs.toList.map fun f => (f.offset, f.type))
  | .pointer e => .ptr e
  | .func .. => .func
  | .interface ms => .iface ms.isEmpty
  | .map k e => .map k e
  | _ => .other

def TK.isAgg : TK → Bool
  | .arr .. | .struct _ => true
  | _ => false

structure TI where
  k : TK
  size : Nat
  bytes : Nat
  zls : List L
  ty : Option Ty
  /-- a struct or array whose values may be held against each other -/
  eqs : Bool

def tyOf (P : Program) : Nat → TypeId → Option Ty
  | 0, _ => none
  | n + 1, t =>
    match P.underlying t with
    | some .bool => some .bool
    | some (.int k) => some (.int k)
    | some .string => some .str
    | some (.slice e) => (tyOf P n e).map .slice
    | some (.array k e) => (tyOf P n e).map (.arr k)
    | some (.struct fs) => fs.toList.foldr (fun f r => match tyOf P n f.type, r with | some a, some b => some (.pair a b) | _, _ => none) (some .unit)
    | some (.interface _) => some .err
    | some (.func ..) => some .opq
    | _ => none

/-- A zero value's parts. -/
def zlsOf (P : Program) : Nat → TypeId → List Value → Option (List L × List Value)
  | 0, _, _ => none
  | n + 1, t, cs =>
    match P.underlying t with
    | some (.struct fs) => fs.toList.foldl (fun r f => match r with | some (ls, cs) => (zlsOf P n f.type cs).map fun p => (ls ++ p.1, p.2) | none => none) (some ([], cs))
    | some (.array k e) =>
      match tyOf P n e, (List.range k).foldl (fun r _ => match r with | some (ls, cs) => (zlsOf P n e cs).map fun p => (ls ++ [p.1], p.2) | none => none) (some ([], cs)) with
      | some te, some (lss, cs) =>
        match lss.foldr (fun ls r => match implode te ls, r with | some (x, []), some xs => some (x :: xs) | _, _ => none) (some ([] : List te.den)) with
        | some xs => if xs.length = k then some ([.val (.arr k te) xs], cs) else none
        | none => none
      | _, _ => none
    | some (.slice _) =>
      match cs with
      | .slice none 0 0 :: cs => some ([.nils], cs)
      | _ => none
    | _ => match cs with
      | c :: cs => if c.oneCell' then some ([constL c], cs) else none
      | [] => none

def zOK (ls : List L) (cs : List Value) : Prop := ∀ (β : Nat → Pl) (w : World) (N : Nat → Prop), LsRel β w N ls cs

theorem zOK.append {a b : List L} {c d : List Value} (h : zOK a c) (h' : zOK b d) : zOK (a ++ b) (c ++ d) := fun β w N => (h β w N).append (h' β w N)

theorem zlsOf_struct {P : Program} {n : Nat} (ih : ∀ t cs ls cs', zlsOf P n t cs = some (ls, cs') → ∃ c1, cs = c1 ++ cs' ∧ zOK ls c1) : ∀ (fs : List Field) (ls0 : List L) (cs0 ca : List Value) (ls : List L) (cs' : List Value),
    zOK ls0 ca → fs.foldl (fun r f => match r with | some (ls, cs) => (zlsOf P n f.type cs).map fun p => (ls ++ p.1, p.2) | none => none) (some (ls0, cs0)) = some (ls, cs') →
    ∃ c1, cs0 = c1 ++ cs' ∧ zOK ls (ca ++ c1)
  | [], ls0, cs0, ca, ls, cs', h0, h => by
    simp only [List.foldl_nil, Option.some.injEq, Prod.mk.injEq] at h
    obtain ⟨rfl, rfl⟩ := h
    exact ⟨[], rfl, by simpa using h0⟩
  | f :: fs, ls0, cs0, ca, ls, cs', h0, h => by
    simp only [List.foldl_cons] at h
    cases hz : zlsOf P n f.type cs0 with
    | none =>
      rw [hz] at h
      simp only [Option.map_none] at h
      have : ∀ fs : List Field, fs.foldl (fun (r : Option (List L × List Value)) f => match r with | some (ls, cs) => (zlsOf P n f.type cs).map fun p => (ls ++ p.1, p.2) | none => none) none = none := by
        intro fs; induction fs with
        | nil => rfl
        | cons f fs ih => simpa using ih
      rw [this] at h; cases h
    | some p =>
      rw [hz] at h
      simp only [Option.map_some] at h
      obtain ⟨c1, e, hz1⟩ := ih _ _ p.1 p.2 hz
      obtain ⟨c2, e2, hz2⟩ := zlsOf_struct ih fs (ls0 ++ p.1) p.2 (ca ++ c1) ls cs' (h0.append hz1) h
      exact ⟨c1 ++ c2, by rw [e, e2, List.append_assoc], by rwa [List.append_assoc] at hz2⟩

theorem zlsOf_arr {P : Program} {n : Nat} {e : TypeId} (ih : ∀ t cs ls cs', zlsOf P n t cs = some (ls, cs') → ∃ c1, cs = c1 ++ cs' ∧ zOK ls c1) : ∀ (k : List Nat) (ls0 : List (List L)) (cs0 : List Value) (css0 : List (List Value)) (lss : List (List L)) (cs' : List Value),
    All2 zOK ls0 css0 → k.foldl (fun r _ => match r with | some (ls, cs) => (zlsOf P n e cs).map fun p => (ls ++ [p.1], p.2) | none => none) (some (ls0, cs0)) = some (lss, cs') →
    ∃ css, cs0 = css.flatten ++ cs' ∧ All2 zOK lss (css0 ++ css)
  | [], ls0, cs0, css0, lss, cs', h0, h => by
    simp only [List.foldl_nil, Option.some.injEq, Prod.mk.injEq] at h
    obtain ⟨rfl, rfl⟩ := h
    exact ⟨[], rfl, by simpa using h0⟩
  | k0 :: k, ls0, cs0, css0, lss, cs', h0, h => by
    simp only [List.foldl_cons] at h
    cases hz : zlsOf P n e cs0 with
    | none =>
      rw [hz] at h
      simp only [Option.map_none] at h
      have : ∀ k : List Nat, k.foldl (fun (r : Option (List (List L) × List Value)) _ => match r with | some (ls, cs) => (zlsOf P n e cs).map fun p => (ls ++ [p.1], p.2) | none => none) none = none := by
        intro k; induction k with
        | nil => rfl
        | cons f fs ih => simpa using ih
      rw [this] at h; cases h
    | some p =>
      rw [hz] at h
      simp only [Option.map_some] at h
      obtain ⟨c1, e1, hz1⟩ := ih _ _ p.1 p.2 hz
      obtain ⟨css, e2, hz2⟩ := zlsOf_arr ih k (ls0 ++ [p.1]) p.2 (css0 ++ [c1]) lss cs' (h0.append ⟨hz1, trivial⟩) h
      exact ⟨c1 :: css, by rw [e1, e2]; simp, by simpa using hz2⟩

theorem implode_all {te : Ty} : ∀ (lss : List (List L)) (css : List (List Value)) (xs : List te.den), All2 zOK lss css →
    lss.foldr (fun ls r => match implode te ls, r with | some (x, []), some xs => some (x :: xs) | _, _ => none) (some ([] : List te.den)) = some xs →
    ∀ (w : World) (N : Nat → Prop), All2 (fun x c => te.Rel w N x c) xs css
  | [], [], xs, _, h, w, N => by simp at h; subst h; trivial
  | ls :: lss, cs :: css, xs, hz, h, w, N => by
    simp only [List.foldr_cons] at h
    split at h
    · rename_i _ x0 xs0 hi hf
      simp only [Option.some.injEq] at h
      subst h
      obtain ⟨c1, c2, e, h1, h2⟩ := implode_rel (β := fun _ => ⟨false, false, 0, none, 0, 0, 0⟩) (w := w) (N := N) hi (hz.1 _ _ _)
      simp only [LsRel] at h2
      subst h2
      rw [List.append_nil] at e
      subst e
      exact ⟨h1, implode_all lss css xs0 hz.2 hf w N⟩
    · cases h

theorem zlsOf_ok {P : Program} : ∀ (n : Nat) (t : TypeId) (cs : List Value) (ls : List L) (cs' : List Value), zlsOf P n t cs = some (ls, cs') → ∃ c1, cs = c1 ++ cs' ∧ zOK ls c1
  | 0, _, _, _, _, h => by simp [zlsOf] at h
  | n + 1, t, cs, ls, cs', h => by
    simp only [zlsOf] at h
    split at h
    · rename_i fs hu
      obtain ⟨c1, e, hz⟩ := zlsOf_struct (zlsOf_ok n) fs.toList [] cs [] ls cs' (fun _ _ _ => rfl) h
      exact ⟨c1, e, by simpa using hz⟩
    · rename_i k e hu
      split at h
      · rename_i _ te lss cs1 hte hf
        split at h
        · rename_i xs hxs
          split at h
          · rename_i hlen
            simp only [Option.some.injEq, Prod.mk.injEq] at h
            obtain ⟨rfl, rfl⟩ := h
            obtain ⟨css, e1, hz⟩ := zlsOf_arr (zlsOf_ok n) (List.range k) [] cs [] lss cs1 trivial hf
            refine ⟨css.flatten, e1, fun β w N => ⟨_, [], (List.append_nil _).symm, ?_, rfl⟩⟩
            simp only [L.Rel, Ty.Rel]
            exact ⟨hlen, css, rfl, implode_all lss css xs (by simpa using hz) hxs w N⟩
          · cases h
        · cases h
      · cases h
    · split at h
      · simp only [Option.some.injEq, Prod.mk.injEq] at h
        obtain ⟨rfl, rfl⟩ := h
        exact ⟨[.slice none 0 0], rfl, fun β w N => LsRel.single (by simp only [L.Rel])⟩
      · cases h
    · split at h
      · rename_i c cs1
        split at h
        · rename_i ho
          simp only [Option.some.injEq, Prod.mk.injEq] at h
          obtain ⟨rfl, rfl⟩ := h
          exact ⟨[c], rfl, fun β w N => LsRel.single (constL_rel c ho)⟩
        · cases h
      · cases h

/-- Values of this type may be held against each other, field by field. -/
def eqF (P : Program) (g : TypeId → Bool) (h : TypeId → Option Ty) : Nat → List Field → Bool
  | _, [] => true
  | off, f :: fs => f.offset == off && !(f.name == "_") && g f.type && (match h f.type with | some a => a.size == P.cellsOf f.type | none => false) && eqF P g h (off + P.cellsOf f.type) fs

def eqsOf (P : Program) : Nat → TypeId → Bool
  | 0, _ => false
  | n + 1, t =>
    match P.underlying t with
    | some .bool | some (.int _) | some .string => true
    | some (.struct fs) => !P.stoodInHeld t && eqF P (eqsOf P n) (tyOf P n) 0 fs.toList
    | some (.array _ e) => eqsOf P n e && (match tyOf P n e with | some a => a.size == P.cellsOf e | none => false)
    | _ => false

def isAggV : Value → Bool
  | .agg _ => true
  | _ => false

def mkTI (P : Program) (t : TypeId) : Option TI :=
  match P.info? t, P.underlying t with
  | some i, some d =>
    match i.zero with
    | some z =>
      match zlsOf P 12 t z.cells.toList with
      | some (ls, []) =>
        if (TK.of d).isAgg == isAggV z && z.cells.size == i.size then
          some { k := TK.of d, size := i.size, bytes := i.bytes, zls := ls, ty := tyOf P 12 t, eqs := (TK.of d).isAgg && (!P.eqGuardType P.depth t && eqsOf P 12 t) }
        else none
      | _ => none
    | none => none
  | _, _ => none

structure TIOK (P : Program) (t : TypeId) (ti : TI) : Prop where
  i : ∃ (i : TypeInfo) (z : Value), P.info? t = some i ∧ i.size = ti.size ∧ i.bytes = ti.bytes ∧ i.zero = some z ∧ zOK ti.zls z.cells.toList ∧ z.cells.size = i.size ∧ ti.k.isAgg = isAggV z
  und : ∃ d, P.underlying t = some d ∧ TK.of d = ti.k
  ty : tyOf P 12 t = ti.ty
  eqs : ti.eqs = true → P.eqGuardType P.depth t = false ∧ eqsOf P 12 t = true

theorem mkTI_ok {P : Program} {t : TypeId} {ti : TI} (h : mkTI P t = some ti) : TIOK P t ti := by
  unfold mkTI at h
  split at h
  · rename_i i d hi hd
    split at h
    · rename_i z hz
      split at h
      · rename_i ls hls
        split at h
        · rename_i hc
          simp only [Option.some.injEq] at h
          subst h
          rw [Bool.and_eq_true] at hc
          obtain ⟨c1, e, hok⟩ := zlsOf_ok _ _ _ _ _ hls
          rw [List.append_nil] at e
          refine ⟨⟨i, z, hi, rfl, rfl, hz, ?_, by simpa using hc.2, by simpa using hc.1⟩, ⟨d, hd, rfl⟩, rfl, fun h => by simp at h; exact h.2⟩
          rw [e]; exact hok
        · cases h
      · cases h
    · cases h
  · cases h

/-- The types that a run knows. -/
abbrev Tab := List (TypeId × TI)

def Tab.get : Tab → TypeId → Option TI
  | [], _ => none
  | p :: r, t => if Nat.beq p.1 t then some p.2 else Tab.get r t

def TabOK (P : Program) (T : Tab) : Prop := ∀ t ti, T.get t = some ti → TIOK P t ti

theorem tabOK_of {P : Program} : ∀ {T : Tab}, (T.map fun p => mkTI P p.1) = T.map (fun p => some p.2) → TabOK P T
  | [], _, _, _, h => by simp [Tab.get] at h
  | p :: r, h, t, ti, ht => by
    simp only [List.map_cons, List.cons.injEq] at h
    simp only [Tab.get] at ht
    split at ht
    · rename_i hb
      have : p.1 = t := Nat.eq_of_beq_eq_true hb
      subst this
      simp only [Option.some.injEq] at ht
      subst ht
      exact mkTI_ok h.1
    · exact tabOK_of h.2 t ti ht

end Go.Dec

namespace Go.Dec

def V.leaves : V → Option (List L)
  | .one l => some [l]
  | .agg ls => some ls
  | _ => none

theorem V.leaves_rel {β : Nat → Pl} {w : World} {N : Nat → Prop} {v : V} {ls : List L} {x : Value} (h : v.leaves = some ls) (hr : v.Rel β w N x) : LsRel β w N ls x.cells.toList := by
  cases v with
  | one l =>
    simp only [V.leaves, Option.some.injEq] at h
    subst h
    have h1 := L.Rel.one hr x (by simp)
    have : x.cells = #[x] := by cases x <;> first | rfl | simp [Value.oneCell'] at h1
    rw [this]
    exact LsRel.single hr
  | agg l =>
    simp only [V.leaves, Option.some.injEq] at h
    subst h
    obtain ⟨cs, rfl, hr⟩ := hr
    exact hr
  | _ => simp [V.leaves] at h

/-- Parts, as a value of a type: an aggregate, or one. -/
def mkV (agg : Bool) (ls : List L) : Option V :=
  match agg, ls with
  | true, ls => some (.agg ls)
  | false, [l] => some (.one l)
  | _, _ => none

def un (op : UnOp) (x : L) : Option (Bool × L) :=
  match op, x with
  | .not, .val .bool b => some (true, .val .bool (!b))
  | .neg, .val (.int k) n => some (true, .val (.int k) (k.wrap (0 - n)))
  | _, _ => none

/-- A slice's elements, as far as it reaches. -/
def inB (i : Int) (n : Nat) : Bool := decide (0 ≤ i) && decide (i < (n : Int))

theorem inB_spec {i : Int} {n : Nat} (h : inB i n = true) : 0 ≤ i ∧ i < (n : Int) ∧ i.toNat < n := by
  unfold inB at h
  rw [Bool.and_eq_true] at h
  have h1 := of_decide_eq_true h.1
  have h2 := of_decide_eq_true h.2
  exact ⟨h1, h2, by omega⟩

def getAt {α : Type} (d : α) (xs : List α) (i : Int) : α := xs.getD i.toNat d

def conv (kd : TK) (ks : TK) (x : L) : Option (Bool × L) :=
  match kd, ks, x with
  | .int k, _, .val (.int _) n => some (true, .val (.int k) (k.wrap n))
  | .str, .str, .val .str s => some (true, .val .str s)
  | .str, .slice _, .val (.slice (.int .u8)) xs => some (true, .val .str (xs.map fun n => UInt8.ofNat n.toNat))
  | _, _, _ => none

def ptrField (h : List Ob) (l : L) (off : Nat) : Option (Bool × L) :=
  match l with
  | .ptr id o => some (true, .ptr id (o + off))
  | .aptr id o es i sub => some (true, .aptr id o es i (sub + off))
  | .eptr id ver i o =>
    match h[id]? with
    | some (.arr _ _ v _ _) => some (Nat.beq v ver, .eptr id ver i (o + off))
    | _ => none
  | .rptr t x o => some (true, .rptr t x (o + off))
  | _ => none

/-- A slice over the whole of a row, as one of that length. -/
def L.view (h : List Ob) : L → L
  | .own id ver =>
    match h[id]? with
    | some (.arr _ _ _ rows _) => .sl id ver 0 rows.length
    | _ => .bad 1
  | l => l

def slLen (h : List Ob) : L → Option (Bool × Int)
  | .val (.slice _) xs => some (true, (xs.length : Int))
  | .nils => some (true, 0)
  | .sl id ver _ len =>
    match h[id]? with
    | some (.arr _ _ v _ _) => some (Nat.beq v ver, (len : Int))
    | _ => none
  | _ => none

def idxAddr (T : Tab) (h : List Ob) (k : TK) (x : L) (i : Int) : Option (Bool × L) :=
  match k, x with
  | .slice e, .val (.slice te) xs =>
    match T.get e with
    | some ti => if ti.size = te.size then some (inB i xs.length, .rptr te (getAt te.dflt xs i) 0) else none
    | none => none
  | .slice e, .sl id ver off len =>
    match h[id]?, T.get e with
    | some (.arr _ t v rows _), some ti => if ti.size = t.size then some (Nat.beq v ver && inB i len && decide (off + len ≤ rows.length), .eptr id ver (off + i.toNat) 0) else none
    | _, _ => none
  | .arr n e, .ptr id off =>
    match T.get e with
    | some ti => some (inB i n, .aptr id off ti.size i.toNat 0)
    | none => none
  | .arr n e, .rptr t0 x0 off =>
    match T.get e with
    | some ti =>
      match takeLs (explode t0 x0) off (n * ti.size) with
      | some [.val (.arr m te) xs] => if m = n ∧ ti.size = te.size then some (inB i n, .rptr te (getAt te.dflt xs i) 0) else none
      | _ => none
    | none => none
  | _, _ => none

def loadAt (T : Tab) (h : List Ob) (t : TypeId) (x : L) : Option (Bool × V) :=
  match T.get t with
  | none => none
  | some ti =>
    match x with
    | .ptr id off =>
      match h[id]? with
      | some (.box _ ls) =>
        match takeLs ls off ti.size with
        | some c => (mkV ti.k.isAgg c).map fun v => (true, v)
        | none => none
      | _ => none
    | .aptr id off es i sub =>
      match h[id]? with
      | some (.box _ ls) =>
        match splitLs ls off with
        | some (_, .val (.arr n te) xs :: _) =>
          if te.size = es then
            match takeLs (explode te (xs.getD i te.dflt)) sub ti.size with
            | some c => (mkV ti.k.isAgg c).map fun v => (decide (i < n), v)
            | none => none
          else none
        | _ => none
      | _ => none
    | .eptr id ver i off =>
      match h[id]? with
      | some (.arr _ te v rows _) =>
        match takeLs (explode te (rows.getD i te.dflt)) off ti.size with
        | some c => (mkV ti.k.isAgg c).map fun u => (Nat.beq v ver && decide (i < rows.length), u)
        | none => none
      | _ => none
    | .rptr te y off =>
      match takeLs (explode te y) off ti.size with
      | some c => (mkV ti.k.isAgg c).map fun v => (true, v)
      | none => none
    | _ => none

def idx (x : V) (i : Int) : Option (Bool × V) :=
  match x with
  | .one (.val .str s) => some (inB i s.length, .one (.val (.int .u8) ((getAt 0 s i).toNat : Int)))
  | _ => none

/-- Bounds of a slice: what stands in for the length. -/
def bounds (n : Nat) (lo hi : Option Int) : Bool × Nat × Nat :=
  match lo, hi with
  | none, none => (true, 0, n)
  | some l, none => (decide (0 ≤ l) && decide (l ≤ (n : Int)), l.toNat, n)
  | none, some h => (decide (0 ≤ h) && decide (h ≤ (n : Int)), 0, h.toNat)
  | some l, some h => (decide (0 ≤ h) && decide (h ≤ (n : Int)) && (decide (0 ≤ l) && decide (l ≤ h)), l.toNat, h.toNat)

def cut {α : Type} (xs : List α) (lo hi : Option Int) : List α :=
  match lo, hi with
  | none, none => xs
  | some l, none => xs.drop l.toNat
  | none, some h => xs.take h.toNat
  | some l, some h => (xs.take h.toNat).drop l.toNat

def slice (k : TK) (x : L) (lo hi : Option Int) (hp : List Ob) : Option (Bool × L) :=
  match k, x with
  | .str, .val .str s => some ((bounds s.length lo hi).1, .val .str (cut s lo hi))
  | .slice _, .val (.slice te) xs => some ((bounds xs.length lo hi).1, .val (.slice te) (cut xs lo hi))
  | .slice _, .sl id ver off len =>
    match hp[id]? with
    | some (.arr _ _ v _ _) => some (Nat.beq v ver && (bounds len lo hi).1, .sl id ver (off + (bounds len lo hi).2.1) ((bounds len lo hi).2.2 - (bounds len lo hi).2.1))
    | _ => none
  | _, _ => none

def build (T : Tab) (fs : List (Nat × TypeId)) : List L → List (Nat × V) → Option (List L)
  | ls, [] => some ls
  | ls, (i, v) :: r =>
    match fs[i]?, v.leaves with
    | some (off, ft), some new =>
      match T.get ft with
      | some ti => if sizes new = ti.size then
          match setLs ls off new with
          | some ls' => build T fs ls' r
          | none => none
        else none
      | none => none
    | _, _ => none

def ext (x : V) (i : Nat) : Option V :=
  match x with
  | .tup vs =>
    match vs[i]? with
    | some (.inl l) => some (.one l)
    | some (.inr ls) => some (.agg ls)
    | none => none
  | _ => none

def mmInt (mx : Bool) (a b : Int) : Int := if mx then (if b > a then b else a) else (if b < a then b else a)

def intOfV : V → Option (IntKind × Int)
  | .one (.val (.int k) n) => some (k, n)
  | _ => none

def optInt (σ : St) : Option Operand → Option (Option Int)
  | none => some none
  | some x => match intOfV (ovl σ x) with | some (_, n) => some (some n) | none => none

/-- 'x == nil' (neg: 'x != nil'), where that is known. -/
def eqNil (x : L) : Option Bool :=
  match x with
  | .nilp | .nils => some true
  | .ptr .. | .aptr .. | .eptr .. | .rptr .. | .clo .. => some false
  | .val .err b => some (!b)
  | _ => none

def caps (σ : St) : List Operand → Option (List L)
  | [] => some []
  | x :: r =>
    match ovl σ x, caps σ r with
    | .one l, some ls => some (l :: ls)
    | _, _ => none

end Go.Dec

namespace Go.Dec
section
variable {P : Program} {β : Nat → Pl} {w : World} {N : Nat → Prop} {T : Tab}

/-! ### Types -/

theorem TIOK.slice {t e : TypeId} {ti : TI} (h : TIOK P t ti) (hk : ti.k = .slice e) : P.underlying t = some (.slice e) := by
  obtain ⟨d, hd, hk'⟩ := h.und
  rw [hk] at hk'
  cases d <;> simp only [TK.of, TK.slice.injEq, reduceCtorEq] at hk'
  subst hk'
  exact hd
theorem TIOK.arr {t e : TypeId} {n : Nat} {ti : TI} (h : TIOK P t ti) (hk : ti.k = .arr n e) : P.underlying t = some (.array n e) := by
  obtain ⟨d, hd, hk'⟩ := h.und
  rw [hk] at hk'
  cases d <;> simp only [TK.of, TK.arr.injEq, reduceCtorEq] at hk'
  obtain ⟨rfl, rfl⟩ := hk'
  exact hd
theorem TIOK.str {t : TypeId} {ti : TI} (h : TIOK P t ti) (hk : ti.k = .str) : P.underlying t = some .string := by
  obtain ⟨d, hd, hk'⟩ := h.und
  rw [hk] at hk'
  cases d <;> simp only [TK.of, reduceCtorEq] at hk'
  exact hd
theorem TIOK.bool {t : TypeId} {ti : TI} (h : TIOK P t ti) (hk : ti.k = .bool) : P.underlying t = some .bool := by
  obtain ⟨d, hd, hk'⟩ := h.und
  rw [hk] at hk'
  cases d <;> simp only [TK.of, reduceCtorEq] at hk'
  exact hd
theorem TIOK.int {t : TypeId} {k : IntKind} {ti : TI} (h : TIOK P t ti) (hk : ti.k = .int k) : P.underlying t = some (.int k) := by
  obtain ⟨d, hd, hk'⟩ := h.und
  rw [hk] at hk'
  cases d <;> simp only [TK.of, TK.int.injEq, reduceCtorEq] at hk'
  subst hk'
  exact hd
theorem TIOK.ptr {t e : TypeId} {ti : TI} (h : TIOK P t ti) (hk : ti.k = .ptr e) : P.underlying t = some (.pointer e) := by
  obtain ⟨d, hd, hk'⟩ := h.und
  rw [hk] at hk'
  cases d <;> simp only [TK.of, TK.ptr.injEq, reduceCtorEq] at hk'
  subst hk'
  exact hd
theorem TIOK.iface {t : TypeId} {b : Bool} {ti : TI} (h : TIOK P t ti) (hk : ti.k = .iface b) : ∃ ms, P.underlying t = some (.interface ms) := by
  obtain ⟨d, hd, hk'⟩ := h.und
  rw [hk] at hk'
  cases d <;> simp only [TK.of, reduceCtorEq] at hk'
  exact ⟨_, hd⟩
theorem TIOK.struct {t : TypeId} {fs : List (Nat × TypeId)} {ti : TI} (h : TIOK P t ti) (hk : ti.k = .struct fs) : ∃ ff : Array Field, P.underlying t = some (.struct ff) ∧ fs = ff.toList.map fun f => (f.offset, f.type) := by
  obtain ⟨d, hd, hk'⟩ := h.und
  rw [hk] at hk'
  cases d <;> simp only [TK.of, TK.struct.injEq, reduceCtorEq] at hk'
  exact ⟨_, hd, hk'.symm⟩

theorem TIOK.sizeOf {t : TypeId} {ti : TI} (h : TIOK P t ti) : (sizeOf t).run P w = .ok ti.size w := by
  obtain ⟨i, z, hi, hs, _⟩ := h.i
  simp [Go.sizeOf, typeInfo, hi, hs]

theorem TIOK.isAgg {t : TypeId} {ti : TI} (h : TIOK P t ti) : (Go.isAgg t).run P w = .ok ti.k.isAgg w := by
  obtain ⟨d, hd, hk⟩ := h.und
  rw [← hk]
  simp only [Go.isAgg, Sem.run_bind, run_underlying hd, Result.andThen_ok]
  cases d <;> rfl

/-! ### Loads -/

theorem run_loadCells_cells {b off : Nat} {cs : List Value} (h : Cells w b off cs) : (loadCells ⟨b, off, none⟩ cs.length).run P w = .ok cs.toArray w :=
  run_loadCells_list (P := P) w ⟨b, off, none⟩ cs fun j v hv => by
    have := h j v hv
    simpa [Addr.add_lit] using this

theorem mkV_load {t : TypeId} {ti : TI} (h : TIOK P t ti) {b off : Nat} {c : List L} {cs : List Value} {v : V} (hc : Cells w b off cs) (hl : LsRel β w N c cs) (hs : cs.length = ti.size) (hv : mkV ti.k.isAgg c = some v) :
    ∃ x, (loadVar t ⟨b, off, none⟩).run P w = .ok x w ∧ v.Rel β w N x := by
  cases ha : ti.k.isAgg with
  | true =>
    rw [ha] at hv
    simp only [mkV, Option.some.injEq] at hv
    subst hv
    refine ⟨.agg cs.toArray, ?_, ⟨cs, rfl, hl⟩⟩
    simp only [loadVar, Sem.run_bind, h.isAgg, Result.andThen_ok, ha, if_true, h.sizeOf]
    rw [← hs, run_loadCells_cells hc]
    rfl
  | false =>
    rw [ha] at hv
    match c, hv with
    | [l], hv =>
      simp only [mkV, Option.some.injEq] at hv
      subst hv
      obtain ⟨c1, c2, e, h1, h2⟩ := hl
      simp only [LsRel] at h2
      subst h2
      rw [List.append_nil] at e
      subst e
      have : ti.size = 1 := by
        obtain ⟨i, z, _, hsz, _, _, _, hz, hag⟩ := h.i
        rw [ha] at hag
        rw [← hsz, ← hz]
        cases z <;> first | rfl | simp [isAggV] at hag
      rw [this] at hs
      obtain ⟨x, rfl⟩ : ∃ x, cs = [x] := by
        match cs, hs with
        | [x], _ => exact ⟨x, rfl⟩
      refine ⟨x, ?_, h1⟩
      have := hc 0 x rfl
      simp only [Nat.add_zero] at this
      simp [loadVar, Sem.run_bind, h.isAgg, Result.andThen_ok, ha, run_load, this]

theorem Cells.of_heap {b : Nat} {cs : Array Value} {e : TypeId} {f : Nat × Nat} (h : w.heap[b]? = some (.cells cs e f)) : Cells w b 0 cs.toList := fun j c hj => by
  simp only [World.cell?, Nat.zero_add, h]
  simpa using hj

theorem Cells.sub {b o off n : Nat} {cs : List Value} (h : Cells w b o cs) : Cells w b (o + off) ((cs.drop off).take n) := (h.drop off).take n

theorem loadAt_run {C : Ctx} {σh : List Ob} {t : TypeId} {l : L} {v : V} {x : Value} (hT : TabOK C.P T) (h : loadAt T σh t l = some (true, v)) (hh : HSim C β σh w) (hl : l.Rel β w (C.N β σh) [x]) :
    ∃ y, (Instr.loadAt t x).run C.P w = .ok y w ∧ v.Rel β w (C.N β σh) y := by
  unfold loadAt at h
  split at h
  · cases h
  · rename_i ti hti
    have hok := hT _ _ hti
    split at h
    · -- ptr
      rename_i id off
      split at h
      · rename_i e ls ho
        split at h
        · rename_i c hc
          cases hv : mkV ti.k.isAgg c with
          | none => rw [hv] at h; cases h
          | some v' =>
            rw [hv] at h
            simp only [Option.map_some, Option.some.injEq, Prod.mk.injEq, true_and] at h
            subst h
            have hob := hh.obj id _ ho
            simp only [Ob.Rel] at hob
            obtain ⟨_, _, b, cs, hb, hls, hheap⟩ := hob
            simp only [L.Rel] at hl
            obtain ⟨_, _, b', hb', hx⟩ := hl
            rw [hb] at hb'
            simp only [Option.some.injEq] at hb'
            subst hb'
            simp only [List.cons.injEq, and_true] at hx
            subst hx
            obtain ⟨hr, hle⟩ := takeLs_rel hc hls
            have hcs := Cells.of_heap hheap
            obtain ⟨y, hy, hv'⟩ := mkV_load hok (b := b) (off := 0 + off) (hcs.sub (n := ti.size)) hr (by simp; omega) hv
            rw [Nat.zero_add] at hy
            exact ⟨y, by simpa [Instr.loadAt, Instr.sureAddr] using hy, hv'⟩
        · cases h
      · cases h
    · -- aptr
      rename_i id off es i sub
      split at h
      · rename_i e ls ho
        split at h
        · rename_i n te xs rest hsp
          split at h
          · rename_i hes
            split at h
            · rename_i c hc
              cases hv : mkV ti.k.isAgg c with
              | none => rw [hv] at h; cases h
              | some v' =>
                rw [hv] at h
                simp only [Option.map_some, Option.some.injEq, Prod.mk.injEq] at h
                obtain ⟨hi, rfl⟩ := h
                have hi := of_decide_eq_true hi
                have hob := hh.obj id _ ho
                simp only [Ob.Rel] at hob
                obtain ⟨_, _, b, cs, hb, hls, hheap⟩ := hob
                simp only [L.Rel] at hl
                obtain ⟨_, _, b', hb', hx⟩ := hl
                rw [hb] at hb'
                simp only [Option.some.injEq] at hb'
                subst hb'
                simp only [List.cons.injEq, and_true] at hx
                subst hx
                obtain ⟨_, hr, _⟩ := splitLs_rel hsp hls
                obtain ⟨c1, c2, e1, h1, h2⟩ := hr
                simp only [L.Rel, Ty.Rel] at h1
                obtain ⟨hn, css, e2, hall⟩ := h1
                have hlen : ∀ c ∈ css, c.length = es := fun c hc => by
                  obtain ⟨y, _, hy⟩ := hall.mem_right c hc
                  rw [hy.length, hes]
                have hi1 : i < css.length := by rw [← hall.length, hn]; exact hi
                have hrel := hall.get i (by rw [hn]; exact hi) hi1
                have hcs := (Cells.of_heap hheap).drop off
                rw [e1, e2] at hcs
                have hcs := hcs.left
                have hcs2 : Cells w b (0 + off + i * es) css[i] := fun j c hj => by
                  have hj' : j < es := by rw [← hlen css[i] (List.getElem_mem hi1)]; exact (List.getElem?_eq_some_iff.1 hj).1
                  have := hcs (i * es + j) c (by rw [flatten_at css hlen i j hi1 hj', hj])
                  rwa [show 0 + off + (i * es + j) = 0 + off + i * es + j by omega] at this
                have hget : xs.getD i te.dflt = xs[i]'(by rw [hn]; exact hi) := by
                  simp only [List.getD_eq_getElem?_getD]; rw [List.getElem?_eq_getElem (by rw [hn]; exact hi)]; rfl
                rw [hget] at hc
                obtain ⟨hr, hle⟩ := takeLs_rel (β := β) hc (explode_rel hrel)
                obtain ⟨y, hy, hv'⟩ := mkV_load hok (b := b) (off := 0 + off + i * es + sub) (hcs2.sub (n := ti.size)) hr (by simp; omega) hv
                rw [Nat.zero_add] at hy
                exact ⟨y, by simpa [Instr.loadAt, Instr.sureAddr] using hy, hv'⟩
            · cases h
          · cases h
        · cases h
      · cases h
    · -- eptr
      rename_i id ver i off
      split at h
      · rename_i e te vv rows wr ho
        split at h
        · rename_i c hc
          cases hv : mkV ti.k.isAgg c with
          | none => rw [hv] at h; cases h
          | some v' =>
            rw [hv] at h
            simp only [Option.map_some, Option.some.injEq, Prod.mk.injEq, Bool.and_eq_true] at h
            obtain ⟨⟨hver, hi⟩, rfl⟩ := h
            have hver := Nat.eq_of_beq_eq_true hver
            have hi := of_decide_eq_true hi
            have hob := hh.obj id _ ho
            simp only [Ob.Rel] at hob
            obtain ⟨_, _, hpv, hpz, hpos, hplen, hob⟩ := hob
            simp only [L.Rel] at hl
            obtain ⟨_, _, _, c0, hc0, _, himp⟩ := hl
            obtain ⟨b', hb', hx⟩ := himp (by rw [hpv, hver])
            simp only [List.cons.injEq, and_true] at hc0
            subst hc0
            rcases hob with ⟨hnb, _⟩ | ⟨b, cur, css, hb, hheap, hall, htake, hcap, _, _⟩
            · rw [hnb] at hb'; cases hb'
            · rw [hb] at hb'
              simp only [Option.some.injEq] at hb'
              subst hb'
              subst hx
              have hlen : ∀ c ∈ css, c.length = te.size := fun c hc => by
                obtain ⟨y, _, hy⟩ := hall.mem_right c hc
                exact hy.length
              have hi1 : i < css.length := by rw [← hall.length]; exact hi
              have hrel := hall.get i hi hi1
              have hcs := (Cells.of_heap hheap).take (rows.length * te.size)
              rw [htake] at hcs
              have hcs2 : Cells w b (0 + i * te.size) css[i] := fun j c hj => by
                have hj' : j < te.size := by rw [← hlen css[i] (List.getElem_mem hi1)]; exact (List.getElem?_eq_some_iff.1 hj).1
                have := hcs (i * te.size + j) c (by rw [flatten_at css hlen i j hi1 hj', hj])
                rwa [show 0 + (i * te.size + j) = 0 + i * te.size + j by omega] at this
              have hget : rows.getD i te.dflt = rows[i] := by
                simp only [List.getD_eq_getElem?_getD]; rw [List.getElem?_eq_getElem hi]; rfl
              rw [hget] at hc
              obtain ⟨hr, hle⟩ := takeLs_rel (β := β) hc (explode_rel hrel)
              obtain ⟨y, hy, hv'⟩ := mkV_load hok (b := b) (off := 0 + i * te.size + off) (hcs2.sub (n := ti.size)) hr (by simp; omega) hv
              rw [Nat.zero_add] at hy
              exact ⟨y, by simpa [Instr.loadAt, Instr.sureAddr, hpz] using hy, hv'⟩
        · cases h
      · cases h
    · -- rptr
      rename_i te y off
      split at h
      · rename_i c hc
        cases hv : mkV ti.k.isAgg c with
        | none => rw [hv] at h; cases h
        | some v' =>
          rw [hv] at h
          simp only [Option.map_some, Option.some.injEq, Prod.mk.injEq, true_and] at h
          subst h
          simp only [L.Rel] at hl
          obtain ⟨c0, hc0, b, o, cs, rfl, hb, hn, hrel, hcs⟩ := hl
          simp only [List.cons.injEq, and_true] at hc0
          subst hc0
          obtain ⟨hr, hle⟩ := takeLs_rel (β := β) hc (explode_rel hrel)
          obtain ⟨y, hy, hv'⟩ := mkV_load hok (b := b) (off := o + off) (hcs.sub (n := ti.size)) hr (by simp; omega) hv
          exact ⟨y, by simpa [Instr.loadAt, Instr.sureAddr] using hy, hv'⟩
      · cases h
    · cases h

end
end Go.Dec

namespace Go.Dec
section
variable {β : Nat → Pl} {w : World} {T : Tab} {C : Ctx}

theorem addr_add (b o n : Nat) : (⟨b, o, none⟩ : Addr).add n = ⟨b, o + n, none⟩ := by
  simp [Addr.add_lit]

theorem view_rel {σh : List Ob} {l : L} {cs : List Value} (hh : HSim C β σh w) (hl : l.Rel β w (C.N β σh) cs) : (l.view σh).Rel β w (C.N β σh) cs := by
  cases l with
  | own id ver =>
    simp only [L.view]
    split
    · rename_i e t v rows wr ho
      have hob := hh.obj _ _ ho
      simp only [Ob.Rel] at hob
      obtain ⟨_, _, _, _, _, hlen, _⟩ := hob
      simp only [L.Rel] at hl ⊢
      rwa [hlen] at hl
    · simp only [L.Rel] at hl ⊢
      obtain ⟨_, _, _, c, rfl, hc, _⟩ := hl
      exact ⟨rfl, by intro x hx; simp at hx; subst hx; exact hc⟩
  | _ => exact hl

theorem idxAddr_run {σh : List Ob} {t : TypeId} {ti : TI} {l l' : L} {x : Value} {k : IntKind} {i : Int} (hT : TabOK C.P T) (ht : T.get t = some ti) (h : idxAddr T σh ti.k l i = some (true, l')) (hh : HSim C β σh w)
    (hl : l.Rel β w (C.N β σh) [x]) : ∃ y, (Instr.indexAt t x (.int k i)).run C.P w = .ok y w ∧ l'.Rel β w (C.N β σh) [y] := by
  have hok := hT _ _ ht
  unfold idxAddr at h
  split at h
  · -- slice, deep
    rename_i e te xs hk
    split at h
    · rename_i tie hte
      split at h
      · rename_i hsz
        simp only [Option.some.injEq, Prod.mk.injEq] at h
        obtain ⟨hi, rfl⟩ := h
        obtain ⟨h0, h1, h2⟩ := inB_spec hi
        simp only [L.Rel, Ty.Rel] at hl
        obtain ⟨x', e1, hs⟩ := hl
        simp only [List.cons.injEq, and_true] at e1
        subst e1
        rcases hs with ⟨_, rfl⟩ | ⟨b, off, cap, css, rfl, hb, hn, hlc, hm, hall, hlen, hcs⟩ | ⟨_, _, _, rfl, _⟩
        rotate_left 2
        · simp at h2
        · simp at h2
        · have hi1 : i.toNat < css.length := by rw [← hall.length]; exact h2
          have hrel := hall.get i.toNat h2 hi1
          have hcs2 : Cells w b (off + i.toNat * te.size) css[i.toNat] := fun j c hj => by
            have hj' : j < te.size := by rw [← hlen css[i.toNat] (List.getElem_mem hi1)]; exact (List.getElem?_eq_some_iff.1 hj).1
            have := hcs (i.toNat * te.size + j) c (by rw [flatten_at css hlen i.toNat j hi1 hj', hj])
            rwa [show off + (i.toNat * te.size + j) = off + i.toNat * te.size + j by omega] at this
          have hget : getAt te.dflt xs i = xs[i.toNat] := by
            simp only [getAt, List.getD_eq_getElem?_getD]; rw [List.getElem?_eq_getElem h2]; rfl
          refine ⟨.pointer (some ⟨b, off + i.toNat * te.size, none⟩), ?_, ?_⟩
          · simp only [Instr.indexAt, asIntOf, Sem.run_bind, Sem.run_pure, Result.andThen_ok, run_underlying (hok.slice hk), h0, h1, and_self, if_true, (hT _ _ hte).sizeOf, addr_add, hsz]
          · simp only [L.Rel]
            exact ⟨_, rfl, b, off + i.toNat * te.size, css[i.toNat], rfl, hb, hn, by rw [hget]; exact hrel, hcs2⟩
      · cases h
    · cases h
  · -- slice, own
    rename_i e id ver off len hk
    split at h
    · rename_i _ _ e' te v rows wr tie ho hte
      split at h
      · rename_i hsz
        simp only [Option.some.injEq, Prod.mk.injEq, Bool.and_eq_true] at h
        obtain ⟨⟨⟨hver, hi⟩, hle⟩, rfl⟩ := h
        have hver := Nat.eq_of_beq_eq_true hver
        have hle := of_decide_eq_true hle
        obtain ⟨h0, h1, h2⟩ := inB_spec hi
        have hob := hh.obj id _ ho
        simp only [Ob.Rel] at hob
        obtain ⟨hlive, hbox, hpv, hpz, hpos, hplen, hob⟩ := hob
        simp only [L.Rel] at hl
        obtain ⟨_, _, _, c0, hc0, _, himp⟩ := hl
        have hsl := himp (by rw [hpv, hver])
        simp only [List.cons.injEq, and_true] at hc0
        subst hc0
        unfold SlOwn at hsl
        rcases hob with ⟨hnb, hr0, _⟩ | ⟨b, cur, css, hb, hheap, hall, htake, hcap, _, _⟩
        · rw [hnb] at hsl
          simp only at hsl
          omega
        · rw [hb] at hsl
          simp only at hsl
          obtain ⟨hoff, o, rfl, ho'⟩ := hsl
          have ho' : o = off * (β id).size := by
            rcases ho' with h | h
            · exact h
            · omega
          refine ⟨.pointer (some ⟨b, o + i.toNat * te.size, none⟩), ?_, ?_⟩
          · simp only [Instr.indexAt, asIntOf, Sem.run_bind, Sem.run_pure, Result.andThen_ok, run_underlying (hok.slice hk), h0, h1, and_self, if_true, (hT _ _ hte).sizeOf, addr_add, hsz]
          · simp only [L.Rel]
            refine ⟨hlive, hbox, by omega, _, rfl, rfl, fun _ => ⟨b, hb, ?_⟩⟩
            rw [ho', hpz, Nat.add_mul, Nat.add_zero]
      · cases h
    · cases h
  · -- array in a box
    rename_i n e id off hk
    split at h
    · rename_i tie hte
      simp only [Option.some.injEq, Prod.mk.injEq] at h
      obtain ⟨hi, rfl⟩ := h
      obtain ⟨h0, h1, h2⟩ := inB_spec hi
      simp only [L.Rel] at hl
      obtain ⟨hlive, hbox, b, hb, hx⟩ := hl
      simp only [List.cons.injEq, and_true] at hx
      subst hx
      refine ⟨.pointer (some ⟨b, off + i.toNat * tie.size, none⟩), ?_, ?_⟩
      · simp only [Instr.indexAt, asIntOf, Sem.run_bind, Sem.run_pure, Result.andThen_ok, run_underlying (hok.arr hk), Instr.sureAddr, h0, h1, and_self, if_true, (hT _ _ hte).sizeOf, addr_add]
      · simp only [L.Rel]
        exact ⟨hlive, hbox, b, hb, rfl⟩
    · cases h
  · -- array elsewhere
    rename_i n e t0 x0 off hk
    split at h
    · rename_i tie hte
      split at h
      · rename_i m te xs htk
        split at h
        · rename_i hc
          obtain ⟨rfl, hsz⟩ := hc
          simp only [Option.some.injEq, Prod.mk.injEq] at h
          obtain ⟨hi, rfl⟩ := h
          obtain ⟨h0, h1, h2⟩ := inB_spec hi
          simp only [L.Rel] at hl
          obtain ⟨c0, hc0, b, o, cs, rfl, hb, hn, hrel, hcs⟩ := hl
          simp only [List.cons.injEq, and_true] at hc0
          subst hc0
          obtain ⟨hr, hle⟩ := takeLs_rel (β := β) htk (explode_rel hrel)
          obtain ⟨d1, d2, e1, hr1, hr2⟩ := hr
          simp only [LsRel] at hr2
          subst hr2
          rw [List.append_nil] at e1
          simp only [L.Rel, Ty.Rel] at hr1
          obtain ⟨hxl, css, e2, hall⟩ := hr1
          have hlen : ∀ c ∈ css, c.length = te.size := fun c hc => by
            obtain ⟨y, _, hy⟩ := hall.mem_right c hc
            exact hy.length
          have hi0 : i.toNat < xs.length := by rw [hxl]; exact h2
          have hi1 : i.toNat < css.length := by rw [← hall.length]; exact hi0
          have hrel2 := hall.get i.toNat hi0 hi1
          have hcs2 := hcs.sub (off := off) (n := m * tie.size)
          rw [e1, e2] at hcs2
          have hcs3 : Cells w b (o + off + i.toNat * te.size) css[i.toNat] := fun j c hj => by
            have hj' : j < te.size := by rw [← hlen css[i.toNat] (List.getElem_mem hi1)]; exact (List.getElem?_eq_some_iff.1 hj).1
            have := hcs2 (i.toNat * te.size + j) c (by rw [flatten_at css hlen i.toNat j hi1 hj', hj])
            rwa [show o + off + (i.toNat * te.size + j) = o + off + i.toNat * te.size + j by omega] at this
          have hget : getAt te.dflt xs i = xs[i.toNat] := by
            simp only [getAt, List.getD_eq_getElem?_getD]; rw [List.getElem?_eq_getElem hi0]; rfl
          refine ⟨.pointer (some ⟨b, o + off + i.toNat * te.size, none⟩), ?_, ?_⟩
          · simp only [Instr.indexAt, asIntOf, Sem.run_bind, Sem.run_pure, Result.andThen_ok, run_underlying (hok.arr hk), Instr.sureAddr, h0, h1, and_self, if_true, (hT _ _ hte).sizeOf, addr_add, hsz]
          · simp only [L.Rel]
            exact ⟨_, rfl, b, o + off + i.toNat * te.size, css[i.toNat], rfl, hb, hn, by rw [hget]; exact hrel2, hcs3⟩
        · cases h
      · cases h
    · cases h
  · cases h

theorem ptrField_run {σh : List Ob} {s ft : TypeId} {ti tf : TI} {fs : List (Nat × TypeId)} {f off : Nat} {l l' : L} {x : Value} (hT : TabOK C.P T) (ht : T.get s = some ti) (hk : ti.k = .struct fs) (hf : fs[f]? = some (off, ft))
    (htf : T.get ft = some tf) (hz : 0 < tf.size) (h : ptrField σh l off = some (true, l')) (hh : HSim C β σh w) (hl : l.Rel β w (C.N β σh) [x]) : ∃ y, (Instr.fieldAt s x f).run C.P w = .ok y w ∧ l'.Rel β w (C.N β σh) [y] := by
  obtain ⟨ff, hu, rfl⟩ := (hT _ _ ht).struct hk
  simp only [List.getElem?_map, Option.map_eq_some_iff, Prod.mk.injEq, Array.getElem?_toList] at hf
  obtain ⟨fld, hfld, rfl, rfl⟩ := hf
  have hplace : ∀ (b o : Nat), (fieldPlace ⟨b, o, none⟩ fld).run C.P w = .ok ⟨b, o + fld.offset, none⟩ w := fun b o => by
    have : ¬ tf.size = 0 := by omega
    simp only [fieldPlace, Sem.run_bind, (hT _ _ htf).sizeOf, Result.andThen_ok, this, if_false, Sem.run_pure, addr_add]
  have hrun : ∀ (b o : Nat), x = .pointer (some ⟨b, o, none⟩) → (Instr.fieldAt s x f).run C.P w = .ok (.pointer (some ⟨b, o + fld.offset, none⟩)) w := fun b o hx => by
    subst hx
    simp only [Instr.fieldAt, Sem.run_bind, run_underlying hu, Result.andThen_ok, hfld, Instr.sureAddr, Sem.run_pure, hplace]
  cases l <;> simp only [ptrField, reduceCtorEq, Option.some.injEq, Prod.mk.injEq, true_and] at h
  · subst h
    simp only [L.Rel] at hl ⊢
    obtain ⟨h1, h2, b, hb, hx⟩ := hl
    simp only [List.cons.injEq, and_true] at hx
    exact ⟨_, hrun b _ hx, h1, h2, b, hb, rfl⟩
  · subst h
    simp only [L.Rel] at hl ⊢
    obtain ⟨h1, h2, b, hb, hx⟩ := hl
    simp only [List.cons.injEq, and_true] at hx
    exact ⟨_, hrun b _ hx, h1, h2, b, hb, by rw [Nat.add_assoc]⟩
  · split at h
    · rename_i e t v rows wr ho
      simp only [Option.some.injEq, Prod.mk.injEq] at h
      obtain ⟨hv, rfl⟩ := h
      have hv := Nat.eq_of_beq_eq_true hv
      have hob := hh.obj _ _ ho
      simp only [Ob.Rel] at hob
      obtain ⟨_, _, hpv, _⟩ := hob
      simp only [L.Rel] at hl ⊢
      obtain ⟨h1, h2, h3, c0, hc0, h4, himp⟩ := hl
      obtain ⟨b, hb, hx⟩ := himp (by rw [hpv, hv])
      simp only [List.cons.injEq, and_true] at hc0
      rw [hx] at hc0
      exact ⟨_, hrun b _ hc0, h1, h2, h3, _, rfl, rfl, fun _ => ⟨b, hb, by rw [Nat.add_assoc]⟩⟩
    · cases h
  · subst h
    simp only [L.Rel] at hl ⊢
    obtain ⟨c0, hc0, b, o, cs, hx, hb, hn, hrel, hcs⟩ := hl
    simp only [List.cons.injEq, and_true] at hc0
    subst hc0
    exact ⟨_, hrun b _ hx, _, rfl, b, o, cs, by rw [Nat.add_assoc], hb, hn, hrel, hcs⟩

/-! ### Texts and slices -/

theorem idx_run {σh : List Ob} {t : TypeId} {ti : TI} {v v' : V} {x : Value} {k : IntKind} {i : Int} (hT : TabOK C.P T) (ht : T.get t = some ti) (hk : ti.k = .str) (h : idx v i = some (true, v'))
    (hl : v.Rel β w (C.N β σh) x) : ∃ y, (Instr.index t x (.int k i)).run C.P w = .ok y w ∧ v'.Rel β w (C.N β σh) y := by
  unfold idx at h
  split at h
  · rename_i s
    simp only [Option.some.injEq, Prod.mk.injEq] at h
    obtain ⟨hi, rfl⟩ := h
    obtain ⟨h0, h1, h2⟩ := inB_spec hi
    simp only [V.Rel, L.Rel, Ty.Rel, List.cons.injEq, and_true] at hl
    subst hl
    have hget : getAt 0 s i = s[i.toNat] := by
      simp only [getAt, List.getD_eq_getElem?_getD]; rw [List.getElem?_eq_getElem h2]; rfl
    have hb : (ByteArray.mk s.toArray)[i.toNat]? = some s[i.toNat] := by
      have hsz : i.toNat < (ByteArray.mk s.toArray).size := by rw [size_mk]; exact h2
      rw [getElem?_pos (ByteArray.mk s.toArray) i.toNat hsz]
      rfl
    refine ⟨.int .u8 s[i.toNat].toNat, ?_, ?_⟩
    · simp only [Instr.index, asIntOf, Sem.run_bind, Sem.run_pure, Result.andThen_ok, run_underlying ((hT _ _ ht).str hk), h0, if_true, hb]
    · simp only [V.Rel, L.Rel, Ty.Rel, hget]
  · cases h

theorem bounds_run {isSlice : Bool} {n cap : Nat} {lo hi : Option Int} {kl kh : IntKind} (hc : n ≤ cap) (h : (bounds n lo hi).1 = true) :
    (Instr.sliceBounds isSlice n cap (lo.map (.int kl)) (hi.map (.int kh)) none).run C.P w = .ok ((bounds n lo hi).2.1, (bounds n lo hi).2.2, cap) w ∧ (bounds n lo hi).2.1 ≤ (bounds n lo hi).2.2 ∧ (bounds n lo hi).2.2 ≤ n := by
  cases lo with
  | none =>
    cases hi with
    | none => simp [Instr.sliceBounds, bounds]
    | some y =>
      simp only [bounds, Bool.and_eq_true, decide_eq_true_eq] at h
      have hy : y ≤ (cap : Int) := by omega
      simp only [Instr.sliceBounds, Option.map_none, Option.map_some, Sem.run_bind, Sem.run_pure, Result.andThen_ok, Instr.sliceBound, asIntOf, h.1, hy, and_self, if_true, bounds]
      exact ⟨trivial, by omega, by omega⟩
  | some x =>
    cases hi with
    | none =>
      simp only [bounds, Bool.and_eq_true, decide_eq_true_eq] at h
      simp only [Instr.sliceBounds, Option.map_none, Option.map_some, Sem.run_bind, Sem.run_pure, Result.andThen_ok, Instr.sliceBound, asIntOf, h.1, h.2, and_self, if_true, bounds]
      exact ⟨trivial, by omega, by omega⟩
    | some y =>
      simp only [bounds, Bool.and_eq_true, decide_eq_true_eq] at h
      have hy : y ≤ (cap : Int) := by omega
      have hx : x ≤ ((y.toNat : Nat) : Int) := by omega
      simp only [Instr.sliceBounds, Option.map_some, Sem.run_bind, Sem.run_pure, Result.andThen_ok, Instr.sliceBound, asIntOf, h.1.1, hy, h.2.1, hx, and_self, if_true, bounds]
      exact ⟨trivial, by omega, by omega⟩

theorem cut_eq {α : Type} (xs : List α) (lo hi : Option Int) (h : (bounds xs.length lo hi).1 = true) : cut xs lo hi = (xs.take (bounds xs.length lo hi).2.2).drop (bounds xs.length lo hi).2.1 := by
  cases lo <;> cases hi <;> simp [cut, bounds]

theorem extract_mk (s : List UInt8) (a b : Nat) : (ByteArray.mk s.toArray).extract a b = ByteArray.mk ((s.take b).drop a).toArray := by
  apply ByteArray.ext
  rw [ByteArray.data_extract]
  simp [List.extract_eq_take_drop, List.drop_take]

theorem slice_run {σh : List Ob} {t : TypeId} {ti : TI} {l l' : L} {x : Value} {lo hi : Option Int} {kl kh : IntKind} (hT : TabOK C.P T) (ht : T.get t = some ti) (h : slice ti.k l lo hi σh = some (true, l')) (hh : HSim C β σh w)
    (hl : l.Rel β w (C.N β σh) [x]) (hte : ∀ e, ti.k = .slice e → ∃ te, T.get e = some te ∧ (∀ a xs, l = .val (.slice a) xs → a.size = te.size) ∧ (∀ id ver off len, l = .sl id ver off len → te.size = (β id).size)) :
    ∃ y, (Instr.sliceAt t x (lo.map (.int kl)) (hi.map (.int kh)) none).run C.P w = .ok y w ∧ l'.Rel β w (C.N β σh) [y] := by
  have hok := hT _ _ ht
  unfold slice at h
  split at h
  · rename_i s hk
    simp only [Option.some.injEq, Prod.mk.injEq] at h
    obtain ⟨hb, rfl⟩ := h
    simp only [L.Rel, Ty.Rel, List.cons.injEq, and_true] at hl
    subst hl
    have hu := hok.str hk
    obtain ⟨hr, _, _⟩ := bounds_run (C := C) (w := w) (isSlice := false) (kl := kl) (kh := kh) (Nat.le_refl _) hb
    refine ⟨.string ⟨(cut s lo hi).toArray⟩, ?_, by simp only [L.Rel, Ty.Rel]⟩
    simp only [Instr.sliceAt, Instr.slice, Sem.run_bind, run_underlying hu, Result.andThen_ok, Option.isSome_none, Bool.false_eq_true, if_false, size_mk, hr, Sem.run_pure, extract_mk, cut_eq s lo hi hb]
  · rename_i e te xs hk
    simp only [Option.some.injEq, Prod.mk.injEq] at h
    obtain ⟨hb, rfl⟩ := h
    obtain ⟨tie, htie, hsz, _⟩ := hte e hk
    have hsz := hsz te xs rfl
    simp only [L.Rel, Ty.Rel] at hl
    obtain ⟨x', e1, hs⟩ := hl
    simp only [List.cons.injEq, and_true] at e1
    subst e1
    have hu := hok.slice hk
    rcases hs with ⟨rfl, rfl⟩ | ⟨b, off, cap, css, rfl, hbl, hn, hlc, hm, hall, hlen, hcs⟩ | ⟨ad, cap, rfl, rfl, hcm⟩
    rotate_left 2
    · obtain ⟨hr, h3, h4⟩ := bounds_run (C := C) (w := w) (isSlice := true) (kl := kl) (kh := kh) (Nat.zero_le cap) hb
      have hcut : cut ([] : List te.den) lo hi = [] := by rw [cut_eq _ _ _ hb]; simp
      have h5 : (bounds 0 lo hi).2.2 = 0 := by simpa using h4
      have h6 : (bounds 0 lo hi).2.1 = 0 := by omega
      refine ⟨.slice (some (if cap = 0 then ad else ad.add (0 * tie.size))) 0 cap, ?_, by simp only [L.Rel, Ty.Rel, hcut]; exact ⟨_, rfl, .inr (.inr ⟨_, _, rfl, rfl, hcm⟩)⟩⟩
      simp only [Instr.sliceAt, Instr.slice, Sem.run_bind, run_underlying hu, Result.andThen_ok, hr, (hT _ _ htie).sizeOf, Sem.run_pure, h5, h6]
      split <;> rfl
    · obtain ⟨hr, h3, h4⟩ := bounds_run (C := C) (w := w) (isSlice := true) (kl := kl) (kh := kh) (Nat.le_refl 0) hb
      have hcut : cut ([] : List te.den) lo hi = [] := by rw [cut_eq _ _ _ hb]; simp
      have h5 : (bounds 0 lo hi).2.2 = 0 := by simpa using h4
      have h6 : (bounds 0 lo hi).2.1 = 0 := by omega
      refine ⟨.slice none 0 0, ?_, by simp only [L.Rel, Ty.Rel, hcut]; exact ⟨_, rfl, .inl ⟨rfl, rfl⟩⟩⟩
      simp only [Instr.sliceAt, Instr.slice, Sem.run_bind, run_underlying hu, Result.andThen_ok, hr, (hT _ _ htie).sizeOf, Sem.run_pure, h5, h6]
      rfl
    · obtain ⟨hr, h3, h4⟩ := bounds_run (C := C) (w := w) (isSlice := true) (kl := kl) (kh := kh) hlc hb
      generalize hlo : (bounds xs.length lo hi).2.1 = a at *
      generalize hhi : (bounds xs.length lo hi).2.2 = c at *
      have hcut : cut xs lo hi = (xs.take c).drop a := by rw [cut_eq _ _ _ hb, hlo, hhi]
      have hclen : ((xs.take c).drop a).length = c - a := by simp; omega
      refine ⟨.slice (some (if cap = a then ⟨b, off, none⟩ else (⟨b, off, none⟩ : Addr).add (a * tie.size))) (c - a) (cap - a), ?_, ?_⟩
      · simp only [Instr.sliceAt, Instr.slice, Sem.run_bind, run_underlying hu, Result.andThen_ok, hr, (hT _ _ htie).sizeOf, Sem.run_pure]
        split <;> rfl
      · simp only [L.Rel, Ty.Rel]
        refine ⟨_, rfl, .inr (.inl ⟨b, if cap = a then off else off + a * tie.size, cap - a, (css.take c).drop a, ?_, hbl, hn, ?_, by omega, ?_, ?_, ?_⟩)⟩
        · rw [hcut, hclen]; split <;> simp [addr_add]
        · rw [hcut, hclen]; omega
        · rw [hcut]; exact (hall.take c).drop a
        · intro d hd; exact hlen d (List.mem_of_mem_take (List.mem_of_mem_drop hd))
        · have hall2 := hall.length
          split
          · rename_i hca
            have : (css.take c).drop a = [] := by apply List.drop_eq_nil_of_le; simp; omega
            rw [this]
            exact Cells.nil
          · have h1 : ((css.take c).drop a).flatten = (css.flatten.take (c * te.size)).drop (a * te.size) := by
              rw [flatten_take css hlen, flatten_drop (css.take c) fun d hd => hlen d (List.mem_of_mem_take hd)]
            rw [h1, ← hsz]
            exact (hcs.take _).drop _
  · rename_i e id ver off len hk
    split at h
    · rename_i e' te v rows wr ho
      simp only [Option.some.injEq, Prod.mk.injEq, Bool.and_eq_true] at h
      obtain ⟨⟨hver, hb⟩, rfl⟩ := h
      have hver := Nat.eq_of_beq_eq_true hver
      obtain ⟨tie, htie, _, hsz⟩ := hte e hk
      have hsz := hsz id ver off len rfl
      have hob := hh.obj id _ ho
      simp only [Ob.Rel] at hob
      obtain ⟨hlive, hbox, hpv, hpz, hpos, hplen, hob⟩ := hob
      simp only [L.Rel] at hl
      obtain ⟨_, _, hvle, c0, hc0, _, himp⟩ := hl
      have hsl := himp (by rw [hpv, hver])
      simp only [List.cons.injEq, and_true] at hc0
      subst hc0
      have hu := hok.slice hk
      unfold SlOwn at hsl
      split at hsl
      · rename_i hnb
        obtain ⟨rfl, rfl, rfl⟩ := hsl
        obtain ⟨hr, h3, h4⟩ := bounds_run (C := C) (w := w) (isSlice := true) (kl := kl) (kh := kh) (Nat.le_refl 0) hb
        have h5 : (bounds 0 lo hi).2.2 = 0 := by simpa using h4
        have h6 : (bounds 0 lo hi).2.1 = 0 := by omega
        refine ⟨.slice none 0 0, ?_, ?_⟩
        · simp only [Instr.sliceAt, Instr.slice, Sem.run_bind, run_underlying hu, Result.andThen_ok, hr, (hT _ _ htie).sizeOf, Sem.run_pure, h5, h6]
          rfl
        · simp only [L.Rel]
          refine ⟨hlive, hbox, hvle, _, rfl, rfl, fun _ => ?_⟩
          unfold SlOwn
          rw [hnb]
          simp only [h5, h6]
          exact ⟨trivial, trivial, trivial⟩
      · rename_i b hbb
        obtain ⟨hoff, o, rfl, ho'⟩ := hsl
        obtain ⟨hr, h3, h4⟩ := bounds_run (C := C) (w := w) (isSlice := true) (kl := kl) (kh := kh) (n := len) (cap := (β id).cap - off) (by omega) hb
        generalize hlo : (bounds len lo hi).2.1 = a at *
        generalize hhi : (bounds len lo hi).2.2 = c at *
        refine ⟨.slice (some (if (β id).cap - off = a then ⟨b, o, none⟩ else (⟨b, o, none⟩ : Addr).add (a * tie.size))) (c - a) ((β id).cap - off - a), ?_, ?_⟩
        · simp only [Instr.sliceAt, Instr.slice, Sem.run_bind, run_underlying hu, Result.andThen_ok, hr, (hT _ _ htie).sizeOf, Sem.run_pure]
          split <;> rfl
        · simp only [L.Rel]
          refine ⟨hlive, hbox, hvle, _, rfl, rfl, fun _ => ?_⟩
          unfold SlOwn
          rw [hbb]
          simp only
          refine ⟨by omega, if (β id).cap - off = a then o else o + a * tie.size, ?_, ?_⟩
          · rw [show (β id).cap - off - a = (β id).cap - (off + a) by omega]
            split <;> simp [addr_add]
          · split
            · by_cases h0 : off + a = 0
              · left
                have h1 : off = 0 := by omega
                rcases ho' with h | h
                · rw [h, h0, h1]
                · omega
              · right; omega
            · rcases ho' with h | h
              · left; rw [h, hsz, Nat.add_mul]
              · right; omega
    · cases h
  · cases h

end
end Go.Dec

namespace Go.Dec
section
variable {β : Nat → Pl} {w w' : World} {T : Tab} {C : Ctx} {h : List Ob}

def upd (β : Nat → Pl) (id : Nat) (p : Pl) : Nat → Pl := fun i => if i = id then p else β i

theorem upd_same (β : Nat → Pl) (id : Nat) (p : Pl) : upd β id p id = p := by simp [upd]
theorem upd_other (β : Nat → Pl) {id i : Nat} (p : Pl) (hi : i ≠ id) : upd β id p i = β i := by simp [upd, hi]

/-- The streams stay. -/
structure Same (w w' : World) : Prop where
  os : w'.os = w.os
  tape : w'.tape = w.tape
  output : w'.output = w.output

theorem Ob.Rel.mono {N N' : Nat → Prop} {o : Ob} {p : Pl} {β' : Nat → Pl} (hr : o.Rel β w N p) (hm : Moves β β') (hk : Keep N w w') (hN : ∀ b, b < w.heap.size → N' b → N b) (hb : ∀ b, p.blk = some b → w'.heap[b]? = w.heap[b]?) : o.Rel β' w' N' p := by
  cases o with
  | box e ls =>
    simp only [Ob.Rel] at *
    obtain ⟨h1, h2, b, cs, h3, h4, h5⟩ := hr
    exact ⟨h1, h2, b, cs, h3, h4.mono hm hk hN, by rw [hb b h3]; exact h5⟩
  | arr e t ver rows wr =>
    simp only [Ob.Rel] at *
    obtain ⟨h1, h2, h3, h4, h5, h5', h6⟩ := hr
    refine ⟨h1, h2, h3, h4, h5, h5', ?_⟩
    rcases h6 with h6 | ⟨b, cur, css, g1, g2, g3, g4⟩
    · exact .inl h6
    · exact .inr ⟨b, cur, css, g1, by rw [hb b g1]; exact g2, g3.mono fun _ _ hx => hx.mono hk hN, g4⟩

theorem Ob.Rel.live {N : Nat → Prop} {o : Ob} {p : Pl} (hr : o.Rel β w N p) : p.live = true := by
  cases o <;> (simp only [Ob.Rel] at hr; exact hr.1)

theorem owns_push {o : Ob} {p : Pl} {b : Nat} (hb : p.blk = none ∨ p.blk = some w.heap.size) (hlt : b < w.heap.size) (hn : C.N (upd β h.length p) (h ++ [o]) b) : C.N β h b := by
  rcases hn with hn | ⟨id, o', ho', hw, hbk⟩
  · exact .inl hn
  · right
    by_cases hid : id < h.length
    · rw [List.getElem?_append_left hid] at ho'
      rw [upd_other _ _ (by omega)] at hbk
      exact ⟨id, o', ho', hw, hbk⟩
    · rw [List.getElem?_append_right (by omega)] at ho'
      have : id = h.length := by
        rcases Nat.lt_or_ge (id - h.length) 1 with h1 | h1
        · omega
        · rw [List.getElem?_eq_none (by simpa using h1)] at ho'; cases ho'
      subst this
      rw [upd_same] at hbk
      rcases hb with hb | hb <;> rw [hb] at hbk
      · cases hbk
      · simp only [Option.some.injEq] at hbk; omega

theorem moves_push (hs : HSim C β h w) (p : Pl) : Moves β (upd β h.length p) := fun id hl => by
  left
  apply upd_other
  intro e
  subst e
  rw [hs.dead _ (Nat.le_refl _)] at hl
  cases hl

theorem HSim.push {o : Ob} {p : Pl} (hs : HSim C β h w) (hb : p.blk = none ∨ (p.blk = some w.heap.size ∧ w.heap.size < w'.heap.size)) (hk : Keep (fun _ => False) w w') (hw : Same w w')
    (ho : o.Rel (upd β h.length p) w' (C.N (upd β h.length p) (h ++ [o])) p) : HSim C (upd β h.length p) (h ++ [o]) w' := by
  have hb' : p.blk = none ∨ p.blk = some w.heap.size := hb.imp id (·.1)
  have hN : ∀ b, b < w.heap.size → C.N (upd β h.length p) (h ++ [o]) b → C.N β h b := fun b hlt hn => owns_push hb' hlt hn
  have hm := moves_push hs p
  have hold : ∀ id o', (h ++ [o])[id]? = some o' → (id < h.length ∧ h[id]? = some o') ∨ (id = h.length ∧ o' = o) := fun id o' ho' => by
    by_cases hid : id < h.length
    · rw [List.getElem?_append_left hid] at ho'; exact .inl ⟨hid, ho'⟩
    · rw [List.getElem?_append_right (by omega)] at ho'
      right
      rcases Nat.lt_or_ge (id - h.length) 1 with h1 | h1
      · have : id - h.length = 0 := by omega
        rw [this] at ho'
        simp only [List.getElem?_cons_zero, Option.some.injEq] at ho'
        exact ⟨by omega, ho'.symm⟩
      · rw [List.getElem?_eq_none (by simpa using h1)] at ho'; cases ho'
  refine ⟨?_, ?_, ?_, ?_, hs.n0, ?_, Nat.le_trans hs.size hk.size, hw.os.trans hs.os, hw.tape.trans hs.tape, hw.output.trans hs.output, fun j o hj => by
    obtain ⟨k1, k2⟩ := hs.fixed j o hj
    exact ⟨by simp; omega, fun b hb => by rw [upd_other _ _ (by omega)]; exact k2 b hb⟩⟩
  · intro id o' ho'
    rcases hold id o' ho' with ⟨hid, ho'⟩ | ⟨rfl, rfl⟩
    · rw [upd_other _ _ (by omega)]
      exact (hs.obj id o' ho').mono hm (hk.weaken fun _ h => h.elim) hN fun b hb => hk.block b (hs.fresh id o' b ho' hb).2.1 (fun h => h)
    · rw [upd_same]; exact ho
  · intro id hid
    rw [List.length_append, List.length_singleton] at hid
    rw [upd_other _ _ (by omega)]
    exact hs.dead id (by omega)
  · intro i j o1 o2 b h1 h2 hb1 hb2
    rcases hold i o1 h1 with ⟨hi, k1⟩ | ⟨rfl, rfl⟩ <;> rcases hold j o2 h2 with ⟨hj, k2⟩ | ⟨rfl, rfl⟩
    · rw [upd_other _ _ (by omega)] at hb1 hb2
      exact hs.apart i j o1 o2 b k1 k2 hb1 hb2
    · rw [upd_other _ _ (by omega)] at hb1
      rw [upd_same] at hb2
      have := (hs.fresh i o1 b k1 hb1).2.1
      rcases hb' with e | e <;> rw [e] at hb2
      · cases hb2
      · simp only [Option.some.injEq] at hb2; omega
    · rw [upd_other _ _ (by omega)] at hb2
      rw [upd_same] at hb1
      have := (hs.fresh j o2 b k2 hb2).2.1
      rcases hb' with e | e <;> rw [e] at hb1
      · cases hb1
      · simp only [Option.some.injEq] at hb1; omega
    · rfl
  · intro id o' b ho' hbk
    rcases hold id o' ho' with ⟨hid, ho'⟩ | ⟨rfl, rfl⟩
    · rw [upd_other _ _ (by omega)] at hbk
      obtain ⟨h1, h2, h3⟩ := hs.fresh id o' b ho' hbk
      exact ⟨h1, Nat.lt_of_lt_of_le h2 hk.size, h3⟩
    · rw [upd_same] at hbk
      rcases hb with e | ⟨e, hlt⟩ <;> rw [e] at hbk
      · cases hbk
      · simp only [Option.some.injEq] at hbk
        subst hbk
        have h0 := hs.size
        exact ⟨fun hn => by have := hs.n0 _ hn; omega, hlt, .inl h0⟩
  · intro b hb hn
    rw [hk.block b (Nat.lt_of_lt_of_le hb hs.size) (fun h => h)]
    exact hs.frame b hb hn

/-- The state behind a step that made an object. -/
theorem Sim.push {σ : St} {a : Act} {o : Ob} {p : Pl} (hs : Sim C β σ a w) (hb : p.blk = none ∨ (p.blk = some w.heap.size ∧ w.heap.size < w'.heap.size)) (hk : Keep (fun _ => False) w w') (hw : Same w w')
    (ho : o.Rel (upd β σ.h.length p) w' (C.N (upd β σ.h.length p) (σ.h ++ [o])) p) : Sim C (upd β σ.h.length p) { σ with h := σ.h ++ [o] } a w' :=
  ⟨hs.heap.push hb hk hw ho, hs.defers, hs.size, fun i v hv => (hs.reg i v hv).mono (moves_push hs.heap p) (hk.weaken fun _ h => h.elim) fun _ hlt hn => owns_push (hb.imp id (·.1)) hlt hn⟩

theorem owns_set {id : Nat} {o old : Ob} {p : Pl} {b : Nat} (hold : h[id]? = some old) (hw : o.wr = true → old.wr = true) (hb : p.blk = (β id).blk ∨ p.blk = none ∨ p.blk = some w.heap.size) (hlt : b < w.heap.size)
    (hn : C.N (upd β id p) (h.set id o) b) : C.N β h b := by
  rcases hn with hn | ⟨i, o', ho', hw', hbk⟩
  · exact .inl hn
  · right
    by_cases hid : i = id
    · subst hid
      have hi : i < h.length := (List.getElem?_eq_some_iff.1 hold).1
      rw [List.getElem?_set_self hi] at ho'
      simp only [Option.some.injEq] at ho'
      subst ho'
      rw [upd_same] at hbk
      rcases hb with e | e | e <;> rw [e] at hbk
      · exact ⟨i, old, hold, hw hw', hbk⟩
      · cases hbk
      · simp only [Option.some.injEq] at hbk; omega
    · rw [List.getElem?_set_ne (Ne.symm hid)] at ho'
      rw [upd_other _ _ hid] at hbk
      exact ⟨i, o', ho', hw', hbk⟩

theorem HSim.set {id : Nat} {o old : Ob} {p : Pl} (hs : HSim C β h w) (hold : h[id]? = some old) (hwr : o.wr = true → old.wr = true) (hb : p.blk = (β id).blk ∨ p.blk = none ∨ (p.blk = some w.heap.size ∧ w.heap.size < w'.heap.size))
    (hk : Keep (fun b => (β id).blk = some b ∧ old.wr = true) w w') (hw : Same w w') (hm : Moves β (upd β id p))
    (ho : o.Rel (upd β id p) w' (C.N (upd β id p) (h.set id o)) p) : HSim C (upd β id p) (h.set id o) w' := by
  have hb' : p.blk = (β id).blk ∨ p.blk = none ∨ p.blk = some w.heap.size := hb.imp (fun h => h) (·.imp (fun h => h) (·.1))
  have hN : ∀ b, b < w.heap.size → C.N (upd β id p) (h.set id o) b → C.N β h b := fun b hlt hn => owns_set hold hwr hb' hlt hn
  have hi : id < h.length := (List.getElem?_eq_some_iff.1 hold).1
  have hkN : Keep (C.N β h) w w' := hk.weaken fun b hbb => .inr ⟨id, old, hold, hbb.2, hbb.1⟩
  have hcase : ∀ i o', (h.set id o)[i]? = some o' → (i ≠ id ∧ h[i]? = some o') ∨ (i = id ∧ o' = o) := fun i o' ho' => by
    by_cases hid : i = id
    · subst hid
      rw [List.getElem?_set_self hi] at ho'
      simp only [Option.some.injEq] at ho'
      exact .inr ⟨rfl, ho'.symm⟩
    · rw [List.getElem?_set_ne (Ne.symm hid)] at ho'
      exact .inl ⟨hid, ho'⟩
  refine ⟨?_, ?_, ?_, ?_, hs.n0, ?_, Nat.le_trans hs.size hk.size, hw.os.trans hs.os, hw.tape.trans hs.tape, hw.output.trans hs.output, fun j o' hj => by
    obtain ⟨k1, k2⟩ := hs.fixed j o' hj
    refine ⟨by simpa using k1, fun b hb => ?_⟩
    obtain ⟨k3, k4⟩ := k2 b hb
    obtain ⟨oj, hoj⟩ : ∃ oj, h[j]? = some oj := ⟨h[j], by simp [k1]⟩
    rcases hm j (hs.obj j oj hoj).live with e | ⟨e, _⟩
    · rw [e]; exact ⟨k3, k4⟩
    · rw [k4] at e; cases e⟩
  · intro i o' ho'
    rcases hcase i o' ho' with ⟨hne, ho'⟩ | ⟨rfl, rfl⟩
    · rw [upd_other _ _ hne]
      exact (hs.obj i o' ho').mono hm hkN hN fun b hb => hk.block b (hs.fresh i o' b ho' hb).2.1 (fun hbb => hne (hs.apart i id o' old b ho' hold hb hbb.1))
    · rw [upd_same]; exact ho
  · intro i hl
    rw [List.length_set] at hl
    rw [upd_other _ _ (by omega)]
    exact hs.dead i hl
  · intro i j o1 o2 b h1 h2 hb1 hb2
    rcases hcase i o1 h1 with ⟨hi1, k1⟩ | ⟨rfl, rfl⟩ <;> rcases hcase j o2 h2 with ⟨hj1, k2⟩ | ⟨rfl, rfl⟩
    · rw [upd_other _ _ hi1] at hb1
      rw [upd_other _ _ hj1] at hb2
      exact hs.apart i j o1 o2 b k1 k2 hb1 hb2
    · rw [upd_other _ _ hi1] at hb1
      rw [upd_same] at hb2
      have := (hs.fresh i o1 b k1 hb1).2.1
      rcases hb' with e | e | e <;> rw [e] at hb2
      · exact hs.apart i _ o1 old b k1 hold hb1 hb2
      · cases hb2
      · simp only [Option.some.injEq] at hb2; omega
    · rw [upd_other _ _ hj1] at hb2
      rw [upd_same] at hb1
      have := (hs.fresh j o2 b k2 hb2).2.1
      rcases hb' with e | e | e <;> rw [e] at hb1
      · exact hs.apart _ j old o2 b hold k2 hb1 hb2
      · cases hb1
      · simp only [Option.some.injEq] at hb1; omega
    · rfl
  · intro i o' b ho' hbk
    rcases hcase i o' ho' with ⟨hne, ho'⟩ | ⟨rfl, rfl⟩
    · rw [upd_other _ _ hne] at hbk
      obtain ⟨h1, h2, h3⟩ := hs.fresh i o' b ho' hbk
      exact ⟨h1, Nat.lt_of_lt_of_le h2 hk.size, h3⟩
    · rw [upd_same] at hbk
      rcases hb with e | e | ⟨e, hlt⟩ <;> rw [e] at hbk
      · obtain ⟨h1, h2, h3⟩ := hs.fresh i old b hold hbk
        exact ⟨h1, Nat.lt_of_lt_of_le h2 hk.size, h3⟩
      · cases hbk
      · simp only [Option.some.injEq] at hbk
        subst hbk
        have h0 := hs.size
        exact ⟨fun hn => by have := hs.n0 _ hn; omega, hlt, .inl h0⟩
  · intro b hb hn
    rw [hk.block b (Nat.lt_of_lt_of_le hb hs.size) (fun hbb => by
      rcases (hs.fresh id old b hold hbb.1).2.2 with h1 | h1
      · omega
      · exact hn h1)]
    exact hs.frame b hb hn

theorem Sim.set {σ : St} {a : Act} {id : Nat} {o old : Ob} {p : Pl} (hs : Sim C β σ a w) (hold : σ.h[id]? = some old) (hwr : o.wr = true → old.wr = true) (hb : p.blk = (β id).blk ∨ p.blk = none ∨ (p.blk = some w.heap.size ∧ w.heap.size < w'.heap.size))
    (hk : Keep (fun b => (β id).blk = some b ∧ old.wr = true) w w') (hw : Same w w') (hm : Moves β (upd β id p))
    (ho : o.Rel (upd β id p) w' (C.N (upd β id p) (σ.h.set id o)) p) : Sim C (upd β id p) { σ with h := σ.h.set id o } a w' :=
  ⟨hs.heap.set hold hwr hb hk hw hm ho, hs.defers, hs.size, fun i v hv => (hs.reg i v hv).mono hm (hk.weaken fun _ hbb => .inr ⟨id, old, hold, hbb.2, hbb.1⟩)
    fun _ hlt hn => owns_set hold hwr (hb.imp (fun h => h) (·.imp (fun h => h) (·.1))) hlt hn⟩

theorem upd_self (β : Nat → Pl) (id : Nat) : upd β id (β id) = β := by
  funext i
  unfold upd
  split
  · rename_i h; rw [h]
  · rfl

/-! ### New objects -/

theorem keep_alloc (w : World) (o : Obj) : Keep (fun _ => False) w (w.alloc o) := ⟨by simp, fun b hb _ => heap_alloc_old w o b hb⟩
theorem same_alloc (w : World) (o : Obj) : Same w (w.alloc o) := ⟨rfl, rfl, rfl⟩
theorem keep_drew (w : World) : Keep (fun _ => False) w w.drew := ⟨Nat.le_refl _, fun _ _ _ => rfl⟩

/-- A new box. -/
theorem newBox {σ : St} {a : Act} {e : TypeId} {ls : List L} {cs : Array Value} (hs : Sim C β σ a w) (hr : LsRel β w (C.N β σ.h) ls cs.toList) :
    ∃ β', Moves β β' ∧ Sim C β' { σ with h := σ.h ++ [.box e ls] } a (w.alloc (.cells cs e)) ∧ (L.ptr σ.h.length 0).Rel β' (w.alloc (.cells cs e)) (C.N β' (σ.h ++ [.box e ls])) [.pointer (some ⟨w.heap.size, 0, none⟩)] := by
  let p : Pl := ⟨true, true, 0, some w.heap.size, 0, 0, 0⟩
  have hk := keep_alloc w (.cells cs e)
  refine ⟨upd β σ.h.length p, moves_push hs.heap p, hs.push (p := p) (.inr ⟨rfl, by simp⟩) hk (same_alloc _ _) ?_, ?_⟩
  · simp only [Ob.Rel]
    refine ⟨rfl, rfl, w.heap.size, cs.toList, rfl, ?_, ?_⟩
    · exact hr.mono (moves_push hs.heap p) (hk.weaken fun _ h => h.elim) fun b hlt hn => owns_push (.inr rfl) hlt hn
    · rw [heap_alloc_new]
  · simp only [L.Rel, upd_same]
    exact ⟨rfl, rfl, w.heap.size, rfl, rfl⟩

/-- A new row, nothing spare. -/
theorem newArr {σ : St} {a : Act} {e : TypeId} {t : Ty} {rows : List t.den} {css : List (List Value)} {cs : Array Value} (hs : Sim C β σ a w) (hpos : 0 < t.size) (hr : All2 (fun x c => t.Rel w (C.N β σ.h) x c) rows css)
    (hcs : cs.toList = css.flatten) (hm : rows.length ≤ maxLen) :
    ∃ β', Moves β β' ∧ Sim C β' { σ with h := σ.h ++ [.arr e t 0 rows true] } a (w.alloc (.cells cs e)) ∧
      (L.own σ.h.length 0).Rel β' (w.alloc (.cells cs e)) (C.N β' (σ.h ++ [.arr e t 0 rows true])) [.slice (some ⟨w.heap.size, 0, none⟩) rows.length rows.length] := by
  let p : Pl := ⟨true, false, 0, some w.heap.size, t.size, rows.length, rows.length⟩
  have hk := keep_alloc w (.cells cs e)
  have hlen : ∀ c ∈ css, c.length = t.size := fun c hc => by
    obtain ⟨y, _, hy⟩ := hr.mem_right c hc
    exact hy.length
  have hsz : cs.size = rows.length * t.size := by
    rw [← Array.length_toList, hcs, flatten_length css hlen, hr.length]
  refine ⟨upd β σ.h.length p, moves_push hs.heap p, hs.push (p := p) (.inr ⟨rfl, by simp⟩) hk (same_alloc _ _) ?_, ?_⟩
  · simp only [Ob.Rel]
    refine ⟨rfl, rfl, rfl, rfl, hpos, rfl, .inr ⟨w.heap.size, cs, css, rfl, ?_, ?_, ?_, hsz, Nat.le_refl _, hm⟩⟩
    · rw [heap_alloc_new]
    · exact hr.mono fun _ _ hx => hx.mono (hk.weaken fun _ h => h.elim) fun b hlt hn => owns_push (.inr rfl) hlt hn
    · rw [List.take_of_length_le (by rw [Array.length_toList]; omega), hcs]
  · simp only [L.Rel, upd_same]
    refine ⟨rfl, rfl, Nat.le_refl _, _, rfl, rfl, fun _ => ?_⟩
    unfold SlOwn
    simp only [p]
    refine ⟨by omega, 0, rfl, .inl (by simp)⟩

end
end Go.Dec

namespace Go.Dec
section
variable {β : Nat → Pl} {w : World} {T : Tab} {C : Ctx}

def storeAt (T : Tab) (h : List Ob) (t : TypeId) (l : L) (v : V) : Option (Bool × List Ob) :=
  match T.get t, v.leaves with
  | some ti, some new =>
    if sizes new = ti.size then
      match l with
      | .ptr id off =>
        match h[id]? with
        | some (.box e ls) => (setLs ls off new).map fun ls' => (true, h.set id (.box e ls'))
        | _ => none
      | .aptr id off es i sub =>
        match h[id]? with
        | some (.box e ls) =>
          match splitLs ls off with
          | some (a, .val (.arr n te) xs :: rest) =>
            if te.size = es then
              match setLs (explode te (xs.getD i te.dflt)) sub new with
              | some parts =>
                match implode te parts with
                | some (y, []) => some (decide (i < n), h.set id (.box e (a ++ .val (.arr n te) (xs.set i y) :: rest)))
                | _ => none
              | none => none
            else none
          | _ => none
        | _ => none
      | .eptr id ver i off =>
        match h[id]? with
        | some (.arr e te v rows true) =>
          match setLs (explode te (rows.getD i te.dflt)) off new with
          | some parts =>
            match implode te parts with
            | some (y, []) => some (Nat.beq v ver && decide (i < rows.length), h.set id (.arr e te v (rows.set i y) true))
            | _ => none
          | none => none
        | _ => none
      | _ => none
    else none
  | _, _ => none

theorem storeVar_run {t : TypeId} {ti : TI} (hok : TIOK C.P t ti) {b off : Nat} {cur : Array Value} {e : TypeId} {x : Value} (hb : w.heap[b]? = some (.cells cur e (0, 0))) (hs : x.cells.size = ti.size) (hfit : off + ti.size ≤ cur.size)
    (h1 : ∀ c ∈ x.cells.toList, c.oneCell' = true) :
    (storeVar t ⟨b, off, none⟩ x).run C.P w = .ok () (w.setRow b (cur.toList.take off ++ x.cells.toList ++ cur.toList.drop (off + ti.size)).toArray) := by
  have hlen : x.cells.toList.length = ti.size := by simpa using hs
  have := run_storeCells_at (P := C.P) b off e x.cells.toList 0 cur w hb (by simp; omega) h1
  simp only [storeVar, Sem.run_bind, hok.sizeOf, Result.andThen_ok, hs, ne_eq, not_true_eq_false, if_false]
  simp only [Nat.add_zero, hlen] at this
  simpa using this

theorem keep_setRow {b : Nat} {cs : Array Value} : Keep (fun k => k = b) w (w.setRow b cs) := ⟨by simp, fun k _ hn => setRow_other w b k cs hn⟩
theorem same_setRow {b : Nat} {cs : Array Value} : Same w (w.setRow b cs) := ⟨rfl, rfl, rfl⟩

/-- A box's cells turn. -/
theorem Sim.setBox {σ : St} {a : Act} {id : Nat} {e : TypeId} {ls ls' : List L} {b : Nat} {cs cs' : List Value} (hs : Sim C β σ a w) (ho : σ.h[id]? = some (.box e ls)) (hb : (β id).blk = some b) (hheap : w.heap[b]? = some (.cells cs.toArray e (0, 0)))
    (hr : LsRel β w (C.N β σ.h) ls' cs') : Sim C β { σ with h := σ.h.set id (.box e ls') } a (w.setRow b cs'.toArray) := by
  have hob := hs.heap.obj id _ ho
  simp only [Ob.Rel] at hob
  obtain ⟨hl, hx, _⟩ := hob
  have hm : Moves β (upd β id (β id)) := by rw [upd_self]; exact Moves.refl β
  have hk : Keep (fun k => (β id).blk = some k ∧ Ob.wr (.box e ls) = true) w (w.setRow b cs'.toArray) := keep_setRow.weaken fun k hk => by subst hk; exact ⟨hb, rfl⟩
  have := hs.set (id := id) (o := .box e ls') (p := β id) (w' := w.setRow b cs'.toArray) ho (fun _ => rfl) (.inl rfl) hk same_setRow hm (by
    simp only [Ob.Rel]
    refine ⟨hl, hx, b, cs', hb, ?_, setRow_heap w b _ _ e _ hheap⟩
    refine hr.mono hm (hk.weaken fun k hk => .inr ⟨id, _, ho, rfl, hk.1⟩) fun k hlt hn => owns_set (w := w) ho (fun _ => rfl) (.inl rfl) hlt hn)
  rwa [upd_self] at this

/-- A row's cells turn. -/
theorem Sim.setArr {σ : St} {a : Act} {id : Nat} {e : TypeId} {t : Ty} {ver : Nat} {rows rows' : List t.den} {b : Nat} {cur cur' : Array Value} {css' : List (List Value)} (hs : Sim C β σ a w) (ho : σ.h[id]? = some (.arr e t ver rows true)) (hb : (β id).blk = some b)
    (hheap : w.heap[b]? = some (.cells cur e (0, 0))) (hlen : rows'.length = rows.length) (hsz : cur'.size = cur.size) (hr : All2 (fun x c => t.Rel w (C.N β σ.h) x c) rows' css') (htake : cur'.toList.take (rows'.length * t.size) = css'.flatten) :
    Sim C β { σ with h := σ.h.set id (.arr e t ver rows' true) } a (w.setRow b cur') := by
  have hob := hs.heap.obj id _ ho
  simp only [Ob.Rel] at hob
  obtain ⟨hl, hx, h3, h4, h5, h6, h7⟩ := hob
  have hm : Moves β (upd β id (β id)) := by rw [upd_self]; exact Moves.refl β
  have hk : Keep (fun k => (β id).blk = some k ∧ Ob.wr (.arr e t ver rows true) = true) w (w.setRow b cur') := keep_setRow.weaken fun k hk => by subst hk; exact ⟨hb, rfl⟩
  have := hs.set (id := id) (o := .arr e t ver rows' true) (p := β id) (w' := w.setRow b cur') ho (fun _ => rfl) (.inl rfl) hk same_setRow hm (by
    simp only [Ob.Rel]
    refine ⟨hl, hx, h3, h4, h5, by rw [h6, hlen], ?_⟩
    rcases h7 with ⟨h7, _⟩ | ⟨b', cur0, css, g1, g2, g3, g4, g5, g6, g7⟩
    · rw [h7] at hb; cases hb
    · rw [hb] at g1
      simp only [Option.some.injEq] at g1
      subst g1
      rw [hheap] at g2
      simp only [Option.some.injEq, Obj.cells.injEq] at g2
      obtain ⟨rfl, _⟩ := g2
      refine .inr ⟨b, cur', css', hb, setRow_heap w b _ _ e _ hheap, ?_, htake, by rw [hsz, g5], by rw [hlen]; exact g6, g7⟩
      exact hr.mono fun _ _ h => h.mono (hk.weaken fun k hk => .inr ⟨id, _, ho, rfl, hk.1⟩) fun k hlt hn => owns_set (w := w) ho (fun _ => rfl) (.inl rfl) hlt hn)
  rwa [upd_self] at this

theorem list_splice_mid {α : Type} (cs : List α) (off n : Nat) (ds : List α) (k m : Nat) (hd : ds.length = m) (h1 : off ≤ k) (h2 : k + m ≤ off + n) :
    cs.take k ++ ds ++ cs.drop (k + m) = cs.take off ++ (((cs.drop off).take n).take (k - off) ++ (ds ++ ((cs.drop off).take n).drop (k - off + m))) ++ cs.drop (off + n) := by
  have e1 : cs.take k = cs.take off ++ ((cs.drop off).take n).take (k - off) := by
    rw [List.take_take, Nat.min_eq_left (by omega)]
    have : k = off + (k - off) := by omega
    rw [show cs.take k = cs.take (off + (k - off)) by rw [← this], List.take_add]
  have e2 : cs.drop (k + m) = ((cs.drop off).take n).drop (k - off + m) ++ cs.drop (off + n) := by
    rw [List.drop_take, List.drop_drop]
    have h4 : cs.drop (off + n) = (cs.drop (off + (k - off + m))).drop (n - (k - off + m)) := by
      rw [List.drop_drop]; congr 1; omega
    rw [h4, List.take_append_drop]
    congr 1
    omega
  rw [e1, e2]
  simp

theorem take_splice {α : Type} (cs : List α) (k m R : Nat) (d : List α) (hd : d.length = m) (h : k + m ≤ R) (hR : R ≤ cs.length) :
    (cs.take k ++ d ++ cs.drop (k + m)).take R = (cs.take R).take k ++ d ++ (cs.take R).drop (k + m) := by
  have e1 : (cs.take R).take k = cs.take k := by rw [List.take_take, Nat.min_eq_left (by omega)]
  have e2 : (cs.take R).drop (k + m) = (cs.drop (k + m)).take (R - (k + m)) := List.drop_take ..
  rw [e1, e2]
  have hl : (cs.take k ++ d).length = k + m := by simp; omega
  rw [List.take_append, hl, List.take_of_length_le (by omega)]

theorem elem_splice {t : Ty} {N : Nat → Prop} {rows : List t.den} {css : List (List Value)} (hall : All2 (fun x c => t.Rel w N x c) rows css) {i : Nat} (hi : i < rows.length) {off : Nat} {new parts : List L} {ds : List Value} {y : t.den}
    (hset : setLs (explode t (rows.getD i t.dflt)) off new = some parts) (himp : implode t parts = some (y, [])) (hd : LsRel β w N new ds) :
    ∃ c', All2 (fun x c => t.Rel w N x c) (rows.set i y) (css.set i c') ∧ off + ds.length ≤ t.size ∧
      (css.set i c').flatten = css.flatten.take (i * t.size + off) ++ ds ++ css.flatten.drop (i * t.size + off + ds.length) := by
  have hi1 : i < css.length := by rw [← hall.length]; exact hi
  have hrel := hall.get i hi hi1
  have hlen : ∀ c ∈ css, c.length = t.size := fun c hc => by
    obtain ⟨y, _, hy⟩ := hall.mem_right c hc
    exact hy.length
  have hget : rows.getD i t.dflt = rows[i] := by
    simp only [List.getD_eq_getElem?_getD]; rw [List.getElem?_eq_getElem hi]; rfl
  rw [hget] at hset
  obtain ⟨hp, hle⟩ := setLs_rel (β := β) hset (explode_rel hrel) hd
  obtain ⟨c1, c2, e, hy, h2⟩ := implode_rel himp hp
  simp only [LsRel] at h2
  subst h2
  rw [List.append_nil] at e
  have hci : css[i].length = t.size := hlen _ (List.getElem_mem hi1)
  refine ⟨c1, hall.set i hy, by omega, ?_⟩
  rw [← e]
  have hset2 : css.set i (css[i].take off ++ (ds ++ css[i].drop (off + ds.length))) = css.take i ++ (css[i].take off ++ (ds ++ css[i].drop (off + ds.length))) :: css.drop (i + 1) := List.set_eq_take_append_cons_drop .. |>.trans (by rw [if_pos hi1])
  rw [hset2, List.flatten_append, List.flatten_cons]
  have t1 : (css.take i).flatten = css.flatten.take (i * t.size) := (flatten_take css hlen i).symm
  have t2 : (css.drop (i + 1)).flatten = css.flatten.drop ((i + 1) * t.size) := (flatten_drop css hlen (i + 1)).symm
  have hfl : css.flatten.length = css.length * t.size := flatten_length css hlen
  have hmul : (i + 1) * t.size ≤ css.length * t.size := Nat.mul_le_mul_right _ hi1
  have hsm : (i + 1) * t.size = i * t.size + t.size := Nat.succ_mul _ _
  have t3 : (css.flatten.drop (i * t.size)).take t.size = css[i] := by
    rw [flatten_drop css hlen i, List.drop_eq_getElem_cons hi1, List.flatten_cons, ← hci, List.take_left]
  have := list_splice_mid css.flatten (i * t.size) t.size ds (i * t.size + off) ds.length rfl (by omega) (by omega)
  rw [this, t1, t2, t3, hsm, show i * t.size + off - i * t.size = off by omega]
  simp

theorem storeAt_run {σ : St} {a : Act} {t : TypeId} {l : L} {v : V} {x y : Value} {h' : List Ob} (hT : TabOK C.P T) (h : storeAt T σ.h t l v = some (true, h')) (hs : Sim C β σ a w) (hl : l.Rel β w (C.N β σ.h) [x]) (hv : v.Rel β w (C.N β σ.h) y) :
    ∃ w', (Instr.storeAt t x y).run C.P w = .ok () w' ∧ Sim C β { σ with h := h' } a w' ∧ Keep (C.N β σ.h) w w' := by
  unfold storeAt at h
  split at h
  · rename_i ti new hti hnew
    have hok := hT _ _ hti
    have hr := V.leaves_rel hnew hv
    split at h
    · rename_i hsz
      have hyl : y.cells.size = ti.size := by rw [← hsz, ← hr.length]; simp
      have hdl : y.cells.toList.length = ti.size := by simpa using hyl
      have hone := hr.one
      split at h
      · -- ptr
        rename_i id off
        split at h
        · rename_i e ls ho
          cases hset : setLs ls off new with
          | none => rw [hset] at h; cases h
          | some ls' =>
            rw [hset] at h
            simp only [Option.map_some, Option.some.injEq, Prod.mk.injEq, true_and] at h
            subst h
            have hob := hs.heap.obj id _ ho
            simp only [Ob.Rel] at hob
            obtain ⟨_, _, b, cs, hb, hls, hheap⟩ := hob
            simp only [L.Rel] at hl
            obtain ⟨_, _, b', hb', hx⟩ := hl
            rw [hb] at hb'
            simp only [Option.some.injEq] at hb'
            subst hb'
            simp only [List.cons.injEq, and_true] at hx
            subst hx
            obtain ⟨hr', hle⟩ := setLs_rel hset hls hr
            have hrun := storeVar_run hok (off := off) hheap hyl (by simp; omega) hone
            refine ⟨_, by simpa only [Instr.storeAt, Instr.sureAddr, Sem.run_bind, Sem.run_pure, Result.andThen_ok] using hrun, ?_⟩
            rw [hdl] at hr'
            rw [List.append_assoc]
            exact ⟨hs.setBox ho hb hheap hr', keep_setRow.weaken fun k hk => .inr ⟨id, _, ho, rfl, by rw [hk]; exact hb⟩⟩
        · cases h
      · -- aptr
        rename_i id off es i sub
        split at h
        · rename_i e ls ho
          split at h
          · rename_i a0 n te xs rest hsp
            split at h
            · rename_i hes
              subst hes
              split at h
              · rename_i parts hset
                split at h
                · rename_i z himp
                  simp only [Option.some.injEq, Prod.mk.injEq] at h
                  obtain ⟨hi, rfl⟩ := h
                  have hi := of_decide_eq_true hi
                  have hob := hs.heap.obj id _ ho
                  simp only [Ob.Rel] at hob
                  obtain ⟨_, _, b, cs, hb, hls, hheap⟩ := hob
                  simp only [L.Rel] at hl
                  obtain ⟨_, _, b', hb', hx⟩ := hl
                  rw [hb] at hb'
                  simp only [Option.some.injEq] at hb'
                  subst hb'
                  simp only [List.cons.injEq, and_true] at hx
                  subst hx
                  obtain ⟨hra, hrb, hoff⟩ := splitLs_rel hsp hls
                  obtain ⟨c1, c2, e1, h1, h2⟩ := hrb
                  simp only [L.Rel, Ty.Rel] at h1
                  obtain ⟨hn, css, e2, hall⟩ := h1
                  have hlen : ∀ c ∈ css, c.length = te.size := fun c hc => by
                    obtain ⟨y, _, hy⟩ := hall.mem_right c hc
                    exact hy.length
                  have hi0 : i < xs.length := by rw [hn]; exact hi
                  obtain ⟨c', hall', hle, hfl⟩ := elem_splice hall hi0 hset himp hr
                  have hcl : c1.length = n * te.size := by rw [e2, flatten_length css hlen, ← hall.length, hn]
                  have hcs : cs.length = off + (c1.length + c2.length) := by
                    have := congrArg List.length e1
                    simp at this; omega
                  have hmul : (i + 1) * te.size ≤ n * te.size := Nat.mul_le_mul_right _ hi
                  have hsm : (i + 1) * te.size = i * te.size + te.size := Nat.succ_mul _ _
                  have hrun := storeVar_run hok (off := off + i * te.size + sub) (x := y) hheap hyl (by simp; omega) hone
                  refine ⟨_, by simpa only [Instr.storeAt, Instr.sureAddr, Sem.run_bind, Sem.run_pure, Result.andThen_ok] using hrun, ?_⟩
                  have hrel : LsRel β w (C.N β σ.h) (a0 ++ .val (.arr n te) (xs.set i z) :: rest) (cs.take off ++ ((css.set i c').flatten ++ c2)) := by
                    refine hra.append ⟨_, _, rfl, ?_, h2⟩
                    simp only [L.Rel, Ty.Rel]
                    exact ⟨by simpa using hn, _, rfl, hall'⟩
                  have heq : cs.take (off + i * te.size + sub) ++ y.cells.toList ++ cs.drop (off + i * te.size + sub + ti.size) = cs.take off ++ ((css.set i c').flatten ++ c2) := by
                    have := list_splice_mid cs off c1.length y.cells.toList (off + i * te.size + sub) ti.size hdl (by omega) (by omega)
                    rw [this, show off + i * te.size + sub - off = i * te.size + sub by omega, hfl]
                    have t1 : (cs.drop off).take c1.length = c1 := by rw [e1, List.take_left]
                    have t2 : cs.drop (off + c1.length) = c2 := by rw [← List.drop_drop, e1, List.drop_left]
                    rw [t1, t2, e2, hdl]
                    simp
                  rw [heq]
                  exact ⟨hs.setBox ho hb hheap hrel, keep_setRow.weaken fun k hk => .inr ⟨id, _, ho, rfl, by rw [hk]; exact hb⟩⟩
                · cases h
              · cases h
            · cases h
          · cases h
        · cases h
      · -- eptr
        rename_i id ver i off
        split at h
        · rename_i e te vv rows ho
          split at h
          · rename_i parts hset
            split at h
            · rename_i z himp
              simp only [Option.some.injEq, Prod.mk.injEq, Bool.and_eq_true] at h
              obtain ⟨⟨hver, hi⟩, rfl⟩ := h
              have hver := Nat.eq_of_beq_eq_true hver
              have hi := of_decide_eq_true hi
              have hob := hs.heap.obj id _ ho
              simp only [Ob.Rel] at hob
              obtain ⟨_, _, hpv, hpz, hpos, hplen, hob⟩ := hob
              simp only [L.Rel] at hl
              obtain ⟨_, _, _, c0, hc0, _, hb0⟩ := hl
              obtain ⟨b', hb', hx⟩ := hb0 (by rw [hpv, hver])
              simp only [List.cons.injEq, and_true] at hc0
              subst hc0
              rcases hob with ⟨hnb, _⟩ | ⟨b, cur, css, hb, hheap, hall, htake, hcap, hrc, _⟩
              · rw [hnb] at hb'; cases hb'
              · rw [hb] at hb'
                simp only [Option.some.injEq] at hb'
                subst hb'
                subst hx
                have hlen : ∀ c ∈ css, c.length = te.size := fun c hc => by
                  obtain ⟨y, _, hy⟩ := hall.mem_right c hc
                  exact hy.length
                obtain ⟨c', hall', hle, hfl⟩ := elem_splice hall hi hset himp hr
                have hmul : (i + 1) * te.size ≤ rows.length * te.size := Nat.mul_le_mul_right _ hi
                have hmul2 : rows.length * te.size ≤ (β id).cap * te.size := Nat.mul_le_mul_right _ hrc
                have hsm : (i + 1) * te.size = i * te.size + te.size := Nat.succ_mul _ _
                have hrun := storeVar_run hok (off := i * te.size + off) (x := y) hheap hyl (by omega) hone
                refine ⟨_, by simpa only [Instr.storeAt, Instr.sureAddr, Sem.run_bind, Sem.run_pure, Result.andThen_ok, hpz] using hrun, ?_⟩
                refine ⟨hs.setArr (css' := css.set i c') ho hb hheap (by simp) ?_ hall' ?_, keep_setRow.weaken fun k hk => .inr ⟨id, _, ho, rfl, by rw [hk]; exact hb⟩⟩
                · simp only [List.size_toArray, List.length_append, List.length_take, List.length_drop, Array.length_toList, hdl]; omega
                · rw [hfl, ← htake, hdl]
                  simp only [List.length_set]
                  have hh : cur.toList.length = cur.size := by simp
                  exact take_splice _ _ _ _ _ hdl (by omega) (by omega)
            · cases h
          · cases h
        · cases h
      · cases h
    · cases h
  · cases h

end
end Go.Dec
