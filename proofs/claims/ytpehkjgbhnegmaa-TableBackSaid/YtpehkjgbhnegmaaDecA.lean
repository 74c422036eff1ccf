/- The first part of a small library of mine: typed data (Ty) and how it lies in the model's memory (Ty.Rel), what keeps it. No statement is proved here. -/
import Derived.Calls
import Derived.Laws.AppendOwn
namespace Go.Dec

inductive Ty where
  | unit | bool | int (k : IntKind) | str | err | opq
  | pair (a b : Ty) | arr (n : Nat) (a : Ty) | slice (a : Ty)
deriving DecidableEq

@[reducible] def Ty.den : Ty → Type
  | .unit => Unit
  | .bool => Bool
  | .int _ => Int
  | .str => List UInt8
  | .err => Bool
  | .opq => Value
  | .pair a b => a.den × b.den
  | .arr _ a => List a.den
  | .slice a => List a.den

def Ty.size : Ty → Nat
  | .unit => 0
  | .pair a b => a.size + b.size
  | .arr n a => n * a.size
  | _ => 1

/-- An array's value is an aggregate of cells. -/
def Ty.isAgg : Ty → Bool
  | .arr .. | .pair .. | .unit => true
  | _ => false

def Ty.dflt : (t : Ty) → t.den
  | .unit => ()
  | .bool => false
  | .int _ => (0 : Int)
  | .str => ([] : List UInt8)
  | .err => false
  | .opq => Value.nilFunc
  | .pair a b => (a.dflt, b.dflt)
  | .arr n a => List.replicate n a.dflt
  | .slice _ => []

/-- Two lists, place by place. -/
def All2 {α β : Type} (R : α → β → Prop) : List α → List β → Prop
  | [], [] => True
  | a :: x, b :: y => R a b ∧ All2 R x y
  | _, _ => False

section all2
variable {α β : Type} {R S : α → β → Prop}
theorem All2.length : ∀ {x : List α} {y : List β}, All2 R x y → x.length = y.length
  | [], [], _ => rfl
  | _ :: _, _ :: _, h => congrArg (· + 1) (All2.length h.2)
theorem All2.mono (h : ∀ a b, R a b → S a b) : ∀ {x : List α} {y : List β}, All2 R x y → All2 S x y
  | [], [], _ => trivial
  | _ :: _, _ :: _, hx => ⟨h _ _ hx.1, All2.mono h hx.2⟩
theorem All2.get : ∀ {x : List α} {y : List β} (_ : All2 R x y) (i : Nat) (h : i < x.length) (h' : i < y.length), R x[i] y[i]
  | _ :: _, _ :: _, hx, 0, _, _ => hx.1
  | _ :: _, _ :: _, hx, i + 1, h, h' => All2.get hx.2 i (Nat.lt_of_succ_lt_succ h) (Nat.lt_of_succ_lt_succ h')
theorem All2.append : ∀ {x : List α} {y : List β} {x' : List α} {y' : List β}, All2 R x y → All2 R x' y' → All2 R (x ++ x') (y ++ y')
  | [], [], _, _, _, h => h
  | _ :: _, _ :: _, _, _, h, h' => ⟨h.1, All2.append h.2 h'⟩
theorem All2.take : ∀ {x : List α} {y : List β} (n : Nat), All2 R x y → All2 R (x.take n) (y.take n)
  | [], [], n, _ => by simp [All2]
  | _ :: _, _ :: _, 0, _ => trivial
  | _ :: _, _ :: _, n + 1, h => ⟨h.1, All2.take n h.2⟩
theorem All2.drop : ∀ {x : List α} {y : List β} (n : Nat), All2 R x y → All2 R (x.drop n) (y.drop n)
  | [], [], n, _ => by simp [All2]
  | _ :: _, _ :: _, 0, h => h
  | _ :: _, _ :: _, n + 1, h => All2.drop n h.2
theorem All2.set : ∀ {x : List α} {y : List β} (n : Nat) {a : α} {b : β}, All2 R x y → R a b → All2 R (x.set n a) (y.set n b)
  | [], [], _, _, _, _, _ => trivial
  | _ :: _, _ :: _, 0, _, _, h, h' => ⟨h', h.2⟩
  | _ :: _, _ :: _, n + 1, _, _, h, h' => ⟨h.1, All2.set n h.2 h'⟩
/-- What stands in the second list stands for something of the first. -/
theorem All2.mem_right : ∀ {x : List α} {y : List β} (_ : All2 R x y) (b : β), b ∈ y → ∃ a ∈ x, R a b
  | [], [], _, _, h => by cases h
  | _ :: _, _ :: _, h, _, .head _ => ⟨_, .head _, h.1⟩
  | _ :: _, _ :: _, h, b, .tail _ hb => let ⟨a, ha, hr⟩ := All2.mem_right h.2 b hb; ⟨a, .tail _ ha, hr⟩
theorem All2.replicate {a : α} {b : β} (h : R a b) : ∀ n, All2 R (List.replicate n a) (List.replicate n b)
  | 0 => trivial
  | n + 1 => ⟨h, All2.replicate h n⟩
theorem All2.append_left : ∀ {x x' : List α} {y : List β}, All2 R (x ++ x') y → ∃ y1 y2, y = y1 ++ y2 ∧ All2 R x y1 ∧ All2 R x' y2
  | [], _, y, h => ⟨[], y, rfl, trivial, h⟩
  | _ :: _, _, [], h => h.elim
  | _ :: _, _, b :: _, h => let ⟨y1, y2, e, h1, h2⟩ := All2.append_left h.2; ⟨b :: y1, y2, by rw [e]; rfl, ⟨h.1, h1⟩, h2⟩
end all2

theorem flatten_length {α : Type} {n : Nat} : ∀ (css : List (List α)), (∀ c ∈ css, c.length = n) → css.flatten.length = css.length * n
  | [], _ => by simp
  | c :: css, h => by
    simp only [List.flatten_cons, List.length_append, List.length_cons]
    rw [h c (.head _), flatten_length css fun c hc => h c (.tail _ hc), Nat.succ_mul, Nat.add_comm]

theorem flatten_at {α : Type} {n : Nat} : ∀ (css : List (List α)), (∀ c ∈ css, c.length = n) → ∀ i j (h : i < css.length), j < n → css.flatten[i * n + j]? = css[i][j]?
  | [], _, _, _, h, _ => by cases h
  | c :: css, hc, 0, j, _, hj => by
    have h1 := hc c (.head _)
    simp [List.getElem?_append_left, h1, hj]
  | c :: css, hc, i + 1, j, h, hj => by
    have h1 := hc c (.head _)
    have h2 := flatten_at css (fun c hc' => hc c (.tail _ hc')) i j (Nat.lt_of_succ_lt_succ h) hj
    have h3 : (i + 1) * n + j = c.length + (i * n + j) := by rw [h1, Nat.succ_mul]; omega
    rw [List.flatten_cons, h3, List.getElem?_append_right (Nat.le_add_right _ _), Nat.add_sub_cancel_left, h2]
    rfl

theorem flatten_take {α : Type} {n : Nat} : ∀ (css : List (List α)), (∀ c ∈ css, c.length = n) → ∀ k, css.flatten.take (k * n) = (css.take k).flatten
  | [], _, k => by simp
  | c :: css, hc, 0 => by simp
  | c :: css, hc, k + 1 => by
    have h1 := hc c (.head _)
    have h2 := flatten_take css (fun c hc' => hc c (.tail _ hc')) k
    have h3 : (k + 1) * n = c.length + k * n := by rw [h1, Nat.succ_mul]; omega
    rw [List.flatten_cons, h3, List.take_length_add_append, h2]
    rfl

theorem flatten_drop {α : Type} {n : Nat} : ∀ (css : List (List α)), (∀ c ∈ css, c.length = n) → ∀ k, css.flatten.drop (k * n) = (css.drop k).flatten
  | [], _, k => by simp
  | c :: css, hc, 0 => by simp
  | c :: css, hc, k + 1 => by
    have h1 := hc c (.head _)
    have h2 := flatten_drop css (fun c hc' => hc c (.tail _ hc')) k
    have h3 : (k + 1) * n = c.length + k * n := by rw [h1, Nat.succ_mul]; omega
    rw [List.flatten_cons, h3, List.drop_length_add_append, h2]
    rfl

/-- The cells at a place are these. -/
def Cells (w : World) (b off : Nat) (cs : List Value) : Prop := ∀ j c, cs[j]? = some c → w.cell? ⟨b, off + j, none⟩ = some c

theorem Cells.left {w : World} {b off : Nat} {c d : List Value} (h : Cells w b off (c ++ d)) : Cells w b off c := fun j x hx => h j x (by
  rw [List.getElem?_append_left (List.getElem?_eq_some_iff.1 hx).1]; exact hx)
theorem Cells.right {w : World} {b off : Nat} {c d : List Value} (h : Cells w b off (c ++ d)) : Cells w b (off + c.length) d := fun j x hx => by
  have := h (c.length + j) x (by rw [List.getElem?_append_right (Nat.le_add_right _ _), Nat.add_sub_cancel_left]; exact hx)
  rwa [Nat.add_assoc]
theorem Cells.append {w : World} {b off : Nat} {c d : List Value} (h1 : Cells w b off c) (h2 : Cells w b (off + c.length) d) : Cells w b off (c ++ d) := fun j x hx => by
  by_cases hj : j < c.length
  · exact h1 j x (by rwa [List.getElem?_append_left hj] at hx)
  · rw [List.getElem?_append_right (by omega)] at hx
    have := h2 (j - c.length) x hx
    rwa [show off + c.length + (j - c.length) = off + j by omega] at this
theorem Cells.nil {w : World} {b off : Nat} : Cells w b off [] := fun j x hx => by simp at hx
theorem Cells.drop {w : World} {b off : Nat} {c : List Value} (h : Cells w b off c) (n : Nat) : Cells w b (off + n) (c.drop n) := fun j x hx => by
  rw [List.getElem?_drop] at hx
  have := h (n + j) x hx
  rwa [Nat.add_assoc]
theorem Cells.take {w : World} {b off : Nat} {c : List Value} (h : Cells w b off c) (n : Nat) : Cells w b off (c.take n) := fun j x hx => by
  rw [List.getElem?_take] at hx
  split at hx
  · exact h j x hx
  · cases hx

/-- How a slice that nobody writes to lies in memory: its rows are 'R', 'N' are the blocks that it may not lie in. -/
def SlRel {α : Type} (w : World) (N : Nat → Prop) (size : Nat) (R : α → List Value → Prop) (xs : List α) (v : Value) : Prop :=
  (v = .slice none 0 0 ∧ xs = []) ∨
  (∃ b off cap css, v = .slice (some ⟨b, off, none⟩) xs.length cap ∧ b < w.heap.size ∧ ¬ N b ∧ xs.length ≤ cap ∧ cap ≤ maxLen ∧ All2 R xs css ∧ (∀ c ∈ css, c.length = size) ∧ Cells w b off css.flatten) ∨
  ∃ a cap, v = .slice (some a) 0 cap ∧ xs = [] ∧ cap ≤ maxLen

/-- How typed data lie in cells. -/
def Ty.Rel (w : World) (N : Nat → Prop) : (t : Ty) → t.den → List Value → Prop
  | .unit, _, cs => cs = []
  | .bool, b, cs => cs = [.bool b]
  | .int k, n, cs => cs = [.int k n]
  | .str, s, cs => cs = [.string ⟨s.toArray⟩]
  | .err, b, cs => ∃ v, cs = [v] ∧ ((b = true ∧ ∃ t x, v = .iface t x) ∨ (b = false ∧ v = .nilIface))
  | .opq, v, cs => cs = [v] ∧ v.oneCell' = true
  | .pair a b, x, cs => ∃ c1 c2, cs = c1 ++ c2 ∧ a.Rel w N x.1 c1 ∧ b.Rel w N x.2 c2
  | .arr n a, xs, cs => xs.length = n ∧ ∃ css, cs = css.flatten ∧ All2 (fun x c => a.Rel w N x c) xs css
  | .slice a, xs, cs => ∃ v, cs = [v] ∧ SlRel w N a.size (fun x c => a.Rel w N x c) xs v

/-- 'w'' keeps what lies outside 'N'. -/
structure Keep (N : Nat → Prop) (w w' : World) : Prop where
  size : w.heap.size ≤ w'.heap.size
  block : ∀ b, b < w.heap.size → ¬ N b → w'.heap[b]? = w.heap[b]?

theorem Keep.refl (N : Nat → Prop) (w : World) : Keep N w w := ⟨Nat.le_refl _, fun _ _ _ => rfl⟩
theorem Keep.trans {N : Nat → Prop} {a b c : World} (h : Keep N a b) (h' : Keep N b c) : Keep N a c :=
  ⟨Nat.le_trans h.size h'.size, fun k hk hn => (h'.block k (Nat.lt_of_lt_of_le hk h.size) hn).trans (h.block k hk hn)⟩
theorem Keep.weaken {N N' : Nat → Prop} {a b : World} (h : Keep N a b) (hn : ∀ k, N k → N' k) : Keep N' a b :=
  ⟨h.size, fun k hk hk' => h.block k hk fun h => hk' (hn k h)⟩
theorem Keep.cell {N : Nat → Prop} {w w' : World} (h : Keep N w w') {a : Addr} (hb : a.block < w.heap.size) (hn : ¬ N a.block) : w'.cell? a = w.cell? a :=
  World.cell?_of_block (h.block a.block hb hn)
theorem Keep.cells {N : Nat → Prop} {w w' : World} (h : Keep N w w') {b off : Nat} {cs : List Value} (hb : b < w.heap.size) (hn : ¬ N b) (hc : Cells w b off cs) : Cells w' b off cs :=
  fun j c hj => (h.cell (a := ⟨b, off + j, none⟩) hb hn).trans (hc j c hj)

theorem SlRel.mono {α : Type} {w w' : World} {N N' : Nat → Prop} {size : Nat} {R R' : α → List Value → Prop} {xs : List α} {v : Value} (hk : Keep N w w') (hN : ∀ b, b < w.heap.size → N' b → N b)
    (hR : ∀ x c, R x c → R' x c) (h : SlRel w N size R xs v) : SlRel w' N' size R' xs v := by
  rcases h with h | ⟨b, off, cap, css, hv, hb, hn, hl, hm, hr, hs, hc⟩ | h
  · exact .inl h
  · exact .inr (.inl ⟨b, off, cap, css, hv, Nat.lt_of_lt_of_le hb hk.size, fun h => hn (hN b hb h), hl, hm, hr.mono hR, hs, hk.cells hb hn hc⟩)
  · exact .inr (.inr h)

theorem Ty.Rel.mono {w w' : World} {N N' : Nat → Prop} (hk : Keep N w w') (hN : ∀ b, b < w.heap.size → N' b → N b) :
    ∀ {t : Ty} {x : t.den} {cs : List Value}, t.Rel w N x cs → t.Rel w' N' x cs
  | .unit, _, _, h => h
  | .bool, _, _, h => h
  | .int _, _, _, h => h
  | .str, _, _, h => h
  | .err, _, _, h => h
  | .opq, _, _, h => h
  | .pair a b, _, _, ⟨c1, c2, e, h1, h2⟩ => ⟨c1, c2, e, Ty.Rel.mono (t := a) hk hN h1, Ty.Rel.mono (t := b) hk hN h2⟩
  | .arr _ a, _, _, ⟨hn, css, e, h⟩ => ⟨hn, css, e, h.mono fun _ _ => Ty.Rel.mono (t := a) hk hN⟩
  | .slice a, _, _, ⟨v, e, h⟩ => ⟨v, e, h.mono hk hN fun _ _ => Ty.Rel.mono (t := a) hk hN⟩

theorem Ty.Rel.length {w : World} {N : Nat → Prop} : ∀ {t : Ty} {x : t.den} {cs : List Value}, t.Rel w N x cs → cs.length = t.size
  | .unit, _, _, h => by simp only [Ty.Rel] at h; subst h; rfl
  | .bool, _, _, h => by simp only [Ty.Rel] at h; subst h; rfl
  | .int _, _, _, h => by simp only [Ty.Rel] at h; subst h; rfl
  | .str, _, _, h => by simp only [Ty.Rel] at h; subst h; rfl
  | .err, _, _, ⟨v, e, _⟩ => by subst e; rfl
  | .opq, _, _, ⟨e, _⟩ => by subst e; rfl
  | .pair a b, _, _, ⟨c1, c2, e, h1, h2⟩ => by subst e; simp [Ty.size, Ty.Rel.length (t := a) h1, Ty.Rel.length (t := b) h2]
  | .arr n a, _, _, ⟨hn, css, e, h⟩ => by
    subst e
    rw [flatten_length (n := a.size) css fun c hc => by obtain ⟨x, _, hx⟩ := h.mem_right c hc; exact Ty.Rel.length (t := a) hx]
    rw [← h.length, hn]; rfl
  | .slice a, _, _, ⟨v, e, _⟩ => by subst e; rfl

theorem Ty.Rel.one {w : World} {N : Nat → Prop} : ∀ {t : Ty} {x : t.den} {cs : List Value}, t.Rel w N x cs → ∀ c ∈ cs, c.oneCell' = true
  | .unit, _, _, h => by simp only [Ty.Rel] at h; subst h; simp
  | .bool, _, _, h => by simp only [Ty.Rel] at h; subst h; simp [Value.oneCell']
  | .int _, _, _, h => by simp only [Ty.Rel] at h; subst h; simp [Value.oneCell']
  | .str, _, _, h => by simp only [Ty.Rel] at h; subst h; simp [Value.oneCell']
  | .err, _, _, ⟨v, e, h⟩ => by
    subst e
    rcases h with ⟨_, t, x, rfl⟩ | ⟨_, rfl⟩ <;> simp [Value.oneCell']
  | .opq, _, _, ⟨e, h⟩ => by subst e; simpa using h
  | .pair a b, _, _, ⟨c1, c2, e, h1, h2⟩ => by
    subst e
    intro c hc
    rcases List.mem_append.1 hc with hc | hc
    · exact Ty.Rel.one (t := a) h1 c hc
    · exact Ty.Rel.one (t := b) h2 c hc
  | .arr n a, _, _, ⟨hn, css, e, h⟩ => by
    subst e
    intro c hc
    obtain ⟨l, hl, hc⟩ := List.mem_flatten.1 hc
    obtain ⟨x, _, hx⟩ := h.mem_right l hl
    exact Ty.Rel.one (t := a) hx c hc
  | .slice a, _, _, ⟨v, e, h⟩ => by
    subst e
    rcases h with ⟨rfl, _⟩ | ⟨b, off, cap, css, rfl, _⟩ | ⟨a, cap, rfl, _⟩ <;> simp [Value.oneCell']

end Go.Dec
