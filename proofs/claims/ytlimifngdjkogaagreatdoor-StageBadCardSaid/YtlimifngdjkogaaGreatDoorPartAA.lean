/- Part of a proof over this seat: a library of my own, and what it says of this seat. No statement is proved here. -/
import Derived.Calls
import Derived.Laws.AppendOwn
import Derived.Laws.StructEq
import Derived.Laws.Strings
namespace Go.Dec
inductive Ty where
 | unit | bool | int (k : IntKind) | str | err | opq
 | pair (a b : Ty) | arr (n : Nat) (a : Ty) | slice (a : Ty)
deriving DecidableEq
@[reducible] def Ty.den : Ty -> Type
 | .unit => Unit
 | .bool => Bool
 | .int _ => Int
 | .str => List UInt8
 | .err => Bool
 | .opq => Value
 | .pair a b => a.den × b.den
 | .arr _ a => List a.den
 | .slice a => List a.den
def Ty.size : Ty -> Nat
 | .unit => 0
 | .pair a b => a.size + b.size
 | .arr n a => n * a.size
 | _ => 1
def Ty.isAgg : Ty -> Bool
 | .arr .. | .pair .. | .unit => true
 | _ => false
def Ty.dflt : (t : Ty) -> t.den
 | .unit => ()
 | .bool => false
 | .int _ => (0 : Int)
 | .str => ([] : List UInt8)
 | .err => false
 | .opq => Value.nilFunc
 | .pair a b => (a.dflt, b.dflt)
 | .arr n a => List.replicate n a.dflt
 | .slice _ => []
def aJ {α β : Type} (R : α -> β -> Prop) : List α -> List β -> Prop
 | [], [] => True
 | a :: x, b :: y => R a b ∧ aJ R x y
 | _, _ => False
section all2
variable {α β : Type} {R S : α -> β -> Prop}
theorem aJ.length : ∀ {x : List α} {y : List β}, aJ R x y -> x.length = y.length
 | [], [], _ => rfl
 | _ :: _, _ :: _, h => congrArg (· + 1) (aJ.length h.2)
theorem aJ.mono (h : ∀ a b, R a b -> S a b) : ∀ {x : List α} {y : List β}, aJ R x y -> aJ S x y
 | [], [], _ => trivial
 | _ :: _, _ :: _, hx => ⟨h _ _ hx.1, aJ.mono h hx.2⟩
theorem aJ.get : ∀ {x : List α} {y : List β} (_ : aJ R x y) (i : Nat) (h : i < x.length) (h' : i < y.length), R x[i] y[i]
 | _ :: _, _ :: _, hx, 0, _, _ => hx.1
 | _ :: _, _ :: _, hx, i + 1, h, h' => aJ.get hx.2 i (Nat.lt_of_succ_lt_succ h) (Nat.lt_of_succ_lt_succ h')
theorem aJ.append : ∀ {x : List α} {y : List β} {x' : List α} {y' : List β}, aJ R x y -> aJ R x' y' -> aJ R (x ++ x') (y ++ y')
 | [], [], _, _, _, h => h
 | _ :: _, _ :: _, _, _, h, h' => ⟨h.1, aJ.append h.2 h'⟩
theorem aJ.take : ∀ {x : List α} {y : List β} (n : Nat), aJ R x y -> aJ R (x.take n) (y.take n)
 | [], [], n, _ => by simp [aJ]
 | _ :: _, _ :: _, 0, _ => trivial
 | _ :: _, _ :: _, n + 1, h => ⟨h.1, aJ.take n h.2⟩
theorem aJ.drop : ∀ {x : List α} {y : List β} (n : Nat), aJ R x y -> aJ R (x.drop n) (y.drop n)
 | [], [], n, _ => by simp [aJ]
 | _ :: _, _ :: _, 0, h => h
 | _ :: _, _ :: _, n + 1, h => aJ.drop n h.2
theorem aJ.set : ∀ {x : List α} {y : List β} (n : Nat) {a : α} {b : β}, aJ R x y -> R a b -> aJ R (x.set n a) (y.set n b)
 | [], [], _, _, _, _, _ => trivial
 | _ :: _, _ :: _, 0, _, _, h, h' => ⟨h', h.2⟩
 | _ :: _, _ :: _, n + 1, _, _, h, h' => ⟨h.1, aJ.set n h.2 h'⟩
theorem aJ.mem_right : ∀ {x : List α} {y : List β} (_ : aJ R x y) (b : β), b ∈ y -> ∃ a ∈ x, R a b
 | [], [], _, _, h => by cases h
 | _ :: _, _ :: _, h, _, .head _ => ⟨_, .head _, h.1⟩
 | _ :: _, _ :: _, h, b, .tail _ hb => let ⟨a, ha, hr⟩ := aJ.mem_right h.2 b hb; ⟨a, .tail _ ha, hr⟩
theorem aJ.replicate {a : α} {b : β} (h : R a b) : ∀ n, aJ R (List.replicate n a) (List.replicate n b)
 | 0 => trivial
 | n + 1 => ⟨h, aJ.replicate h n⟩
end all2
theorem aR {α : Type} {n : Nat} : ∀ (css : List (List α)), (∀ c ∈ css, c.length = n) -> css.flatten.length = css.length * n
 | [], _ => by simp
 | c :: css, h => by
  simp only [List.flatten_cons, List.length_append, List.length_cons]
  rw [h c (.head _), aR css fun c hc => h c (.tail _ hc), Nat.succ_mul, Nat.add_comm]
theorem jP {α : Type} {n : Nat} : ∀ (css : List (List α)), (∀ c ∈ css, c.length = n) -> ∀ i j (h : i < css.length), j < n -> css.flatten[i * n + j]? = css[i][j]?
 | [], _, _, _, h, _ => by cases h
 | c :: css, hc, 0, j, _, hj => by
  have h1 := hc c (.head _)
  simp [List.getElem?_append_left, h1, hj]
 | c :: css, hc, i + 1, j, h, hj => by
  have h1 := hc c (.head _)
  have h2 := jP css (fun c hc' => hc c (.tail _ hc')) i j (Nat.lt_of_succ_lt_succ h) hj
  have h3 : (i + 1) * n + j = c.length + (i * n + j) := by rw [h1, Nat.succ_mul]; omega
  rw [List.flatten_cons, h3, List.getElem?_append_right (Nat.le_add_right _ _), Nat.add_sub_cancel_left, h2]
  rfl
theorem fP {α : Type} {n : Nat} : ∀ (css : List (List α)), (∀ c ∈ css, c.length = n) -> ∀ k, css.flatten.take (k * n) = (css.take k).flatten
 | [], _, k => by simp
 | c :: css, hc, 0 => by simp
 | c :: css, hc, k + 1 => by
  have h1 := hc c (.head _)
  have h2 := fP css (fun c hc' => hc c (.tail _ hc')) k
  have h3 : (k + 1) * n = c.length + k * n := by rw [h1, Nat.succ_mul]; omega
  rw [List.flatten_cons, h3, List.take_length_add_append, h2]
  rfl
theorem dM {α : Type} {n : Nat} : ∀ (css : List (List α)), (∀ c ∈ css, c.length = n) -> ∀ k, css.flatten.drop (k * n) = (css.drop k).flatten
 | [], _, k => by simp
 | c :: css, hc, 0 => by simp
 | c :: css, hc, k + 1 => by
  have h1 := hc c (.head _)
  have h2 := dM css (fun c hc' => hc c (.tail _ hc')) k
  have h3 : (k + 1) * n = c.length + k * n := by rw [h1, Nat.succ_mul]; omega
  rw [List.flatten_cons, h3, List.drop_length_add_append, h2]
  rfl
theorem Jq {i k n : Nat} (h : i < k) : i * n + n <= k * n := by
 have := Nat.mul_le_mul_right n (show i + 1 <= k from h)
 rwa [Nat.succ_mul] at this
theorem Uw {a c k n : Nat} (h : c <= k) (h2 : a <= c) : a * n + (c - a) * n <= k * n := by
 rw [<- Nat.add_mul]
 exact Nat.mul_le_mul_right n (by omega)
def Cells (w : World) (b off : Nat) (cs : List Value) : Prop := ∀ j c, cs[j]? = some c -> w.cell? ⟨b, off + j, none⟩ = some c
theorem Cells.left {w : World} {b off : Nat} {c d : List Value} (h : Cells w b off (c ++ d)) : Cells w b off c := fun j x hx => h j x (by
 rw [List.getElem?_append_left (List.getElem?_eq_some_iff.1 hx).1]; exact hx)
theorem Cells.right {w : World} {b off : Nat} {c d : List Value} (h : Cells w b off (c ++ d)) : Cells w b (off + c.length) d := fun j x hx => by
 have := h (c.length + j) x (by rw [List.getElem?_append_right (Nat.le_add_right _ _), Nat.add_sub_cancel_left]; exact hx)
 rwa [Nat.add_assoc]
theorem Cells.append {w : World} {b off : Nat} {c d : List Value} (h1 : Cells w b off c) (h2 : Cells w b (off + c.length) d) : Cells w b off (c ++ d) := fun j x hx => by
 by_cases hj : j < c.length
 ·exact h1 j x (by rwa [List.getElem?_append_left hj] at hx)
 ·rw [List.getElem?_append_right (by omega)] at hx
  have := h2 (j - c.length) x hx
  rwa [show off + c.length + (j - c.length) = off + j by omega] at this
theorem Cells.nil {w : World} {b off : Nat} : Cells w b off [] := fun j x hx => by simp at hx
theorem Cells.drop {w : World} {b off : Nat} {c : List Value} (h : Cells w b off c) (n : Nat) : Cells w b (off + n) (c.drop n) := fun j x hx => by
 rw [List.getElem?_drop] at hx
 have := h (n + j) x hx
 rwa [Nat.add_assoc]
theorem Cells.take {w : World} {b off : Nat} {c : List Value} (h : Cells w b off c) (n : Nat) : Cells w b off (c.take n) := fun j x hx => by
 rw [List.getElem?_take] at hx
 split at hx
 ·exact h j x hx
 ·cases hx
def Lx {α : Type} (w : World) (N : Nat -> Nat -> Prop) (size : Nat) (R : α -> List Value -> Prop) (xs : List α) (v : Value) : Prop :=
 (v = .slice none 0 0 ∧ xs = []) ∨
 (∃ b off cap css, v = .slice (some ⟨b, off, none⟩) xs.length cap ∧ b < w.heap.size ∧ (∀ j, off <= j -> j < off + xs.length * size -> ¬ N b j) ∧ xs.length <= cap ∧ cap <= maxLen ∧ aJ R xs css ∧ (∀ c ∈ css, c.length = size) ∧ Cells w b off css.flatten) ∨
 ∃ a cap, v = .slice (some a) 0 cap ∧ xs = [] ∧ cap <= maxLen
def Ty.Rel (w : World) (N : Nat -> Nat -> Prop) : (t : Ty) -> t.den -> List Value -> Prop
 | .unit, _, cs => cs = []
 | .bool, b, cs => cs = [.bool b]
 | .int k, n, cs => cs = [.int k n]
 | .str, s, cs => cs = [.string ⟨s.toArray⟩]
 | .err, b, cs => ∃ v, cs = [v] ∧ ((b = true ∧ ∃ t x, v = .iface t x) ∨ (b = false ∧ v = .nilIface))
 | .opq, v, cs => cs = [v] ∧ v.oneCell' = true
 | .pair a b, x, cs => ∃ c1 c2, cs = c1 ++ c2 ∧ a.Rel w N x.1 c1 ∧ b.Rel w N x.2 c2
 | .arr n a, xs, cs => xs.length = n ∧ ∃ css, cs = css.flatten ∧ aJ (fun x c => a.Rel w N x c) xs css
 | .slice a, xs, cs => ∃ v, cs = [v] ∧ Lx w N a.size (fun x c => a.Rel w N x c) xs v
structure Keep (N : Nat -> Nat -> Prop) (w w' : World) : Prop where
 size : w.heap.size <= w'.heap.size
 block : ∀ b, b < w.heap.size -> (∀ j, ¬ N b j) -> w'.heap[b]? = w.heap[b]?
 place : ∀ b j, b < w.heap.size -> ¬ N b j -> ∀ c, w.cell? ⟨b, j, none⟩ = some c -> w'.cell? ⟨b, j, none⟩ = some c
theorem Keep.qR {M : Nat -> Prop} {N : Nat -> Nat -> Prop} {w w' : World} (h1 : w.heap.size <= w'.heap.size) (h2 : ∀ b, b < w.heap.size -> ¬ M b -> w'.heap[b]? = w.heap[b]?) (h3 : ∀ b j, M b -> N b j) : Keep N w w' :=
 ⟨h1, fun b hb hn => h2 b hb fun hm => hn 0 (h3 b 0 hm), fun b j hb hn c hc => by
  have := World.cell?_of_block (a := ⟨b, j, none⟩) (h2 b hb fun hm => hn (h3 b j hm))
  rw [this]; exact hc⟩
theorem Keep.refl (N : Nat -> Nat -> Prop) (w : World) : Keep N w w := ⟨Nat.le_refl _, fun _ _ _ => rfl, fun _ _ _ _ _ h => h⟩
theorem Keep.trans {N : Nat -> Nat -> Prop} {a b c : World} (h : Keep N a b) (h' : Keep N b c) : Keep N a c :=
 ⟨Nat.le_trans h.size h'.size, fun k hk hn => (h'.block k (Nat.lt_of_lt_of_le hk h.size) hn).trans (h.block k hk hn), fun k j hk hn x hx => h'.place k j (Nat.lt_of_lt_of_le hk h.size) hn x (h.place k j hk hn x hx)⟩
theorem Keep.yS {N M : Nat -> Nat -> Prop} {a b c : World} (h : Keep N a b) (h' : Keep M b c) (hM : ∀ k j, k < a.heap.size -> M k j -> N k j) : Keep N a c :=
 ⟨Nat.le_trans h.size h'.size, fun k hk hn => (h'.block k (Nat.lt_of_lt_of_le hk h.size) fun j hm => hn j (hM k j hk hm)).trans (h.block k hk hn), fun k j hk hn x hx => h'.place k j (Nat.lt_of_lt_of_le hk h.size) (fun hm => hn (hM k j hk hm)) x (h.place k j hk hn x hx)⟩
theorem Keep.weaken {N N' : Nat -> Nat -> Prop} {a b : World} (h : Keep N a b) (hn : ∀ k j, N k j -> N' k j) : Keep N' a b :=
 ⟨h.size, fun k hk hk' => h.block k hk fun j h => hk' j (hn k j h), fun k j hk hk' => h.place k j hk fun h => hk' (hn k j h)⟩
theorem Keep.cells {N : Nat -> Nat -> Prop} {w w' : World} (h : Keep N w w') {b off : Nat} {cs : List Value} (hb : b < w.heap.size) (hn : ∀ j, off <= j -> j < off + cs.length -> ¬ N b j) (hc : Cells w b off cs) : Cells w' b off cs :=
 fun j c hj => h.place b (off + j) hb (hn _ (by omega) (by have := (List.getElem?_eq_some_iff.1 hj).1; omega)) c (hc j c hj)
theorem Lx.mono {α : Type} {w w' : World} {N N' : Nat -> Nat -> Prop} {size : Nat} {R R' : α -> List Value -> Prop} {xs : List α} {v : Value} (hk : Keep N w w') (hN : ∀ b j, b < w.heap.size -> N' b j -> N b j)
  (hR : ∀ x c, R x c -> R' x c) (h : Lx w N size R xs v) : Lx w' N' size R' xs v := by
 rcases h with h | ⟨b, off, cap, css, hv, hb, hn, hl, hm, hr, hs, hc⟩ | h
 ·exact .inl h
 ·have hlen : css.flatten.length = xs.length * size := by rw [aR css hs, <- hr.length]
  exact .inr (.inl ⟨b, off, cap, css, hv, Nat.lt_of_lt_of_le hb hk.size, fun j h1 h2 h => hn j h1 h2 (hN b j hb h), hl, hm, hr.mono hR, hs, hk.cells hb (fun j h1 h2 => hn j h1 (by rw [<- hlen]; exact h2)) hc⟩)
 ·exact .inr (.inr h)
theorem Ty.Rel.mono {w w' : World} {N N' : Nat -> Nat -> Prop} (hk : Keep N w w') (hN : ∀ b j, b < w.heap.size -> N' b j -> N b j) :
  ∀ {t : Ty} {x : t.den} {cs : List Value}, t.Rel w N x cs -> t.Rel w' N' x cs
 | .unit, _, _, h => h
 | .bool, _, _, h => h
 | .int _, _, _, h => h
 | .str, _, _, h => h
 | .err, _, _, h => h
 | .opq, _, _, h => h
 | .pair a b, _, _, ⟨c1, c2, e, h1, h2⟩ => ⟨c1, c2, e, Ty.Rel.mono (t := a) hk hN h1, Ty.Rel.mono (t := b) hk hN h2⟩
 | .arr _ a, _, _, ⟨hn, css, e, h⟩ => ⟨hn, css, e, h.mono fun _ _ => Ty.Rel.mono (t := a) hk hN⟩
 | .slice a, _, _, ⟨v, e, h⟩ => ⟨v, e, h.mono hk hN fun _ _ => Ty.Rel.mono (t := a) hk hN⟩
theorem Ty.Rel.length {w : World} {N : Nat -> Nat -> Prop} : ∀ {t : Ty} {x : t.den} {cs : List Value}, t.Rel w N x cs -> cs.length = t.size
 | .unit, _, _, h => by simp only [Ty.Rel] at h; subst h; rfl
 | .bool, _, _, h => by simp only [Ty.Rel] at h; subst h; rfl
 | .int _, _, _, h => by simp only [Ty.Rel] at h; subst h; rfl
 | .str, _, _, h => by simp only [Ty.Rel] at h; subst h; rfl
 | .err, _, _, ⟨v, e, _⟩ => by subst e; rfl
 | .opq, _, _, ⟨e, _⟩ => by subst e; rfl
 | .pair a b, _, _, ⟨c1, c2, e, h1, h2⟩ => by subst e; simp [Ty.size, Ty.Rel.length (t := a) h1, Ty.Rel.length (t := b) h2]
 | .arr n a, _, _, ⟨hn, css, e, h⟩ => by
  subst e
  rw [aR (n := a.size) css fun c hc => by obtain ⟨x, _, hx⟩ := h.mem_right c hc; exact Ty.Rel.length (t := a) hx]
  rw [<- h.length, hn]; rfl
 | .slice a, _, _, ⟨v, e, _⟩ => by subst e; rfl
theorem Ty.Rel.one {w : World} {N : Nat -> Nat -> Prop} : ∀ {t : Ty} {x : t.den} {cs : List Value}, t.Rel w N x cs -> ∀ c ∈ cs, c.oneCell' = true
 | .unit, _, _, h => by simp only [Ty.Rel] at h; subst h; simp
 | .bool, _, _, h => by simp only [Ty.Rel] at h; subst h; simp [Value.oneCell']
 | .int _, _, _, h => by simp only [Ty.Rel] at h; subst h; simp [Value.oneCell']
 | .str, _, _, h => by simp only [Ty.Rel] at h; subst h; simp [Value.oneCell']
 | .err, _, _, ⟨v, e, h⟩ => by
  subst e
  rcases h with ⟨_, t, x, rfl⟩ | ⟨_, rfl⟩ <;> simp [Value.oneCell']
 | .opq, _, _, ⟨e, h⟩ => by subst e; simpa using h
 | .pair a b, _, _, ⟨c1, c2, e, h1, h2⟩ => by
  subst e
  intro c hc
  rcases List.mem_append.1 hc with hc | hc
  ·exact Ty.Rel.one (t := a) h1 c hc
  ·exact Ty.Rel.one (t := b) h2 c hc
 | .arr n a, _, _, ⟨hn, css, e, h⟩ => by
  subst e
  intro c hc
  obtain ⟨l, hl, hc⟩ := List.mem_flatten.1 hc
  obtain ⟨x, _, hx⟩ := h.mem_right l hl
  exact Ty.Rel.one (t := a) hx c hc
 | .slice a, _, _, ⟨v, e, h⟩ => by
  subst e
  rcases h with ⟨rfl, _⟩ | ⟨b, off, cap, css, rfl, _⟩ | ⟨a, cap, rfl, _⟩ <;> simp [Value.oneCell']
end Go.Dec
namespace Go.Dec
inductive MK where
 | i (k : IntKind) (n : Int)
 | s (b : List UInt8)
 deriving DecidableEq
def MK.v : MK -> Value
 | .i k n => .int k n
 | .s b => .string ⟨b.toArray⟩
def MK.beq : MK -> MK -> Bool
 | .i _ n, .i _ m => n == m
 | .s b, .s c => b == c
 | _, _ => false
def lQ : List (MK × Nat) -> MK -> Option Nat
 | [], _ => none
 | (a, f) :: r, x => if MK.beq x a = true then some f else lQ r x
def Eo (x : MK) (tab : List (MK × Nat)) : Value :=
 match lQ tab x with
 | some f => .func (.func f) #[] #[]
 | none => .nilFunc
inductive L where
 | val (t : Ty) (x : t.den)
 | ptr (id off : Nat)
 | eY (id off es i sub : Nat)
 | gI
 | bM (id off : Nat)
 | bW (id ver i off : Nat)
 | dX (t : Ty) (x : t.den) (off : Nat)
 | sl (id ver off len : Nat)
 | own (id ver : Nat)
 | aS
 | clo (f : Nat) (caps : List L)
 | bad (size : Nat)
 | mp (id : Nat)
 | oZ (x : MK) (tab : List (MK × Nat))
inductive V where
 | one (l : L)
 | agg (ls : List L)
 | tup (vs : List (Sum L (List L)))
 | aN
inductive Ob where
 | box (e : TypeId) (ls : List L)
 | arr (e : TypeId) (t : Ty) (ver : Nat) (rows : List t.den) (wr : Bool)
 | fm (tab : List (MK × Nat))
def L.size : L -> Nat
 | .val t _ => t.size
 | .bad n => n
 | _ => 1
structure Pl where
 live : Bool
 box : Bool
 ver : Nat
 blk : Option Nat
 size : Nat
 cap : Nat
 len : Nat
 sub : List (Nat × Nat)
def RP (w : World) (N : Nat -> Nat -> Prop) (t : Ty) (x : t.den) (off : Nat) (c : Value) : Prop :=
 ∃ b o cs, c = .pointer (some ⟨b, o + off, none⟩) ∧ b < w.heap.size ∧ (∀ j, o <= j -> j < o + cs.length -> ¬ N b j) ∧ t.Rel w N x cs ∧ Cells w b o cs
def bP (p : Pl) (off len : Nat) (c : Value) : Prop :=
 match p.blk with
 | none => c = .slice none 0 0 ∧ off = 0 ∧ len = 0
 | some b => off + len <= p.cap ∧ ∃ o, c = .slice (some ⟨b, o, none⟩) len (p.cap - off) ∧ (o = off * p.size ∨ (off = p.cap ∧ 0 < off))
mutual
def L.Rel (β : Nat -> Pl) (w : World) (N : Nat -> Nat -> Prop) : L -> List Value -> Prop
 | .val t x, cs => t.Rel w N x cs
 | .ptr id off, cs => (β id).live = true ∧ (β id).box = true ∧ ∃ b, (β id).blk = some b ∧ cs = [.pointer (some ⟨b, off, none⟩)]
 | .eY id off es i sub, cs => (β id).live = true ∧ (β id).box = true ∧ ∃ b, (β id).blk = some b ∧ cs = [.pointer (some ⟨b, off + i * es + sub, none⟩)]
 | .gI, cs => cs = [.pointer none]
 | .bM id off, cs => ∃ c, cs = [c] ∧ (c = .pointer none ∨ ((β id).live = true ∧ (β id).box = true ∧ ∃ b, (β id).blk = some b ∧ c = .pointer (some ⟨b, off, none⟩)))
 | .bW id ver i off, cs => (β id).live = true ∧ (β id).box = false ∧ ver <= (β id).ver ∧ ∃ c, cs = [c] ∧ c.oneCell' = true ∧
   ((β id).ver = ver -> ∃ b, (β id).blk = some b ∧ c = .pointer (some ⟨b, i * (β id).size + off, none⟩))
 | .dX t x off, cs => ∃ c, cs = [c] ∧ RP w N t x off c
 | .sl id ver off len, cs => (β id).live = true ∧ (β id).box = false ∧ ver <= (β id).ver ∧ ∃ c, cs = [c] ∧ c.oneCell' = true ∧ ((β id).ver = ver -> bP (β id) off len c)
 | .own id ver, cs => (β id).live = true ∧ (β id).box = false ∧ ver <= (β id).ver ∧ ∃ c, cs = [c] ∧ c.oneCell' = true ∧ ((β id).ver = ver -> bP (β id) 0 (β id).len c)
 | .aS, cs => cs = [.slice none 0 0]
 | .clo f caps, cs => ∃ us, cs = [.func (.func f) #[] us.toArray] ∧ L.aU β w N caps us
 | .bad n, cs => cs.length = n ∧ ∀ c ∈ cs, c.oneCell' = true
 | .mp id, cs => (β id).live = true ∧ (β id).box = true ∧ ∃ b, (β id).blk = some b ∧ cs = [.map (some b)]
 | .oZ x tab, cs => cs = [Eo x tab]
def L.aU (β : Nat -> Pl) (w : World) (N : Nat -> Nat -> Prop) : List L -> List Value -> Prop
 | [], us => us = []
 | l :: ls, us => ∃ u r, us = u :: r ∧ L.Rel β w N l [u] ∧ L.aU β w N ls r
end
def aC (β : Nat -> Pl) (w : World) (N : Nat -> Nat -> Prop) : List L -> List Value -> Prop
 | [], cs => cs = []
 | l :: ls, cs => ∃ c1 c2, cs = c1 ++ c2 ∧ l.Rel β w N c1 ∧ aC β w N ls c2
def dO (β : Nat -> Pl) (w : World) (N : Nat -> Nat -> Prop) : Sum L (List L) -> Value -> Prop
 | .inl l, v => l.Rel β w N [v]
 | .inr ls, v => ∃ cs : List Value, v = .agg cs.toArray ∧ aC β w N ls cs
def V.Rel (β : Nat -> Pl) (w : World) (N : Nat -> Nat -> Prop) : V -> Value -> Prop
 | .one l, v => l.Rel β w N [v]
 | .agg ls, v => ∃ cs : List Value, v = .agg cs.toArray ∧ aC β w N ls cs
 | .tup vs, v => ∃ us : List Value, v = .tuple us.toArray ∧ aJ (dO β w N) vs us
 | .aN, _ => True
def Ob.Rel (β : Nat -> Pl) (w : World) (N : Nat -> Nat -> Prop) (p : Pl) : Ob -> Prop
  | .box e ls => p.live = true ∧ p.box = true ∧ ∃ b cs, p.blk = some b ∧ aC β w N ls cs ∧ w.heap[b]? = some (.cells cs.toArray e (0, 0))
  | .arr e t ver rows _ => p.live = true ∧ p.box = false ∧ p.ver = ver ∧ p.size = t.size ∧ 0 < t.size ∧ p.len = rows.length ∧
      ((p.blk = none ∧ rows = [] ∧ p.cap = 0) ∨
       ∃ b cur css, p.blk = some b ∧ w.heap[b]? = some (.cells cur e (0, 0)) ∧ aJ (fun x c => t.Rel w N x c) rows css ∧ cur.toList.take (rows.length * t.size) = css.flatten ∧ cur.size = p.cap * t.size ∧ rows.length <= p.cap ∧ p.cap <= maxLen)
  | .fm tab => p.live = true ∧ p.box = true ∧ ∃ b es n, p.blk = some b ∧ w.heap[b]? = some (.map es n) ∧ es.toList.map (fun e => (e.key, e.val)) = tab.map fun q => (q.1.v, Value.func (.func q.2) #[] #[])
def Ob.wr : Ob -> Bool
 | .box .. => true
 | .arr _ _ _ _ b => b
 | .fm _ => true
def Ob.gZ : Ob -> Bool
 | .box .. => false
 | .arr .. => false
 | .fm _ => false
def Ob.plain (o : Ob) : Bool := !o.gZ
def Ob.at (o : Ob) (p : Pl) (b j : Nat) : Prop := p.blk = some b ∨ (o.gZ = true ∧ ∃ m, (b, m) ∈ p.sub ∧ m <= j)
def Ob.blks (o : Ob) (p : Pl) (b : Nat) : Prop := ∃ j, o.at p b j
theorem Ob.iJ {o : Ob} {p : Pl} {b j : Nat} (h : p.blk = some b) : o.at p b j := .inl h
theorem Ob.lD {o : Ob} {p : Pl} {b : Nat} (h : p.blk = some b) : o.blks p b := ⟨0, Ob.iJ h⟩
theorem Ob.Od {o : Ob} {p : Pl} {b j : Nat} (hp : o.plain = true) (h : o.at p b j) : p.blk = some b := by
 rcases h with h | ⟨h, _⟩
 ·exact h
 ·simp [Ob.plain, h] at hp
theorem Ob.wB {o : Ob} {p : Pl} {b : Nat} (hp : o.plain = true) (h : o.blks p b) : p.blk = some b := by obtain ⟨j, h⟩ := h; exact Ob.Od hp h
theorem Ob.uT {o o' : Ob} {p p' : Pl} {b j : Nat} (h1 : o.gZ = o'.gZ) (h2 : p.blk = p'.blk) (h3 : p.sub = p'.sub) (h : o.at p b j) : o'.at p' b j := by
 unfold Ob.at at *; rw [<- h1, <- h2, <- h3]; exact h
theorem Ob.gL {o o' : Ob} {p p' : Pl} {b : Nat} (h1 : o.gZ = o'.gZ) (h2 : p.blk = p'.blk) (h3 : p.sub = p'.sub) (h : o.blks p b) : o'.blks p' b := by
 obtain ⟨j, h⟩ := h; exact ⟨j, Ob.uT h1 h2 h3 h⟩
structure St where
 r : List V
 h : List Ob
def slash : String := String.singleton (Char.ofNat 47)
inductive GK where
 | int (k : IntKind)
 | tab (k : IntKind) (zs : List Int)
 | any
def GK.ok (w : World) (g : Nat) : GK -> Prop
 | .int k => ∃ m : Int, w.cell? ⟨g, 0, none⟩ = some (.int k m)
 | .tab k zs => ∃ a b, w.heap[g]? = some (.cells (zs.map (Value.int k)).toArray a b)
 | .any => ∃ v, w.cell? ⟨g, 0, none⟩ = some v ∧ (v = .nilIface ∨ ∃ te pe, v = .iface te pe)
def Ux : List Int := [0, 1, 56, 2, 57, 49, 28, 3, 61, 58, 42, 50, 38, 29, 17, 4, 62, 47, 59, 36, 45, 43, 51, 22, 53, 39, 33, 30, 24, 18, 12, 5, 63, 55, 48, 27, 60, 41, 37, 16, 46, 35, 44, 21, 52, 32, 23, 11, 54, 26, 40, 15, 34, 20, 31, 10, 25, 14, 19, 9, 13, 8, 7, 6]
def Uy : List Int := [0, 1, 28, 2, 29, 14, 24, 3, 30, 22, 20, 15, 25, 17, 4, 8, 31, 27, 13, 23, 21, 19, 16, 7, 26, 12, 18, 6, 11, 5, 10, 9]
def Uz : List Int := [1, 10, 100, 1000, 10000, 100000, 1000000, 10000000, 100000000, 1000000000, 10000000000, 100000000000, 1000000000000, 10000000000000, 100000000000000, 1000000000000000, 10000000000000000, 100000000000000000, 1000000000000000000, 10000000000000000000]
def Ct (s : String) : Option GK :=
 if s = "internal" ++ slash ++ "bytealg.MaxLen" then some (.int .i64)
 else if s = "math" ++ slash ++ "bits.deBruijn64tab" then some (.tab .u8 Ux)
 else if s = "math" ++ slash ++ "bits.deBruijn32tab" then some (.tab .u8 Uy)
 else if s = "internal" ++ slash ++ "strconv.uint64pow10" then some (.tab .u64 Uz)
 else if s = "strconv.ErrSyntax" then some .any
 else if s = "strconv.ErrRange" then some .any
 else none
def Glob (P : Program) (w : World) : Prop := ∀ (g : Nat) (x : Global), P.globals[g]? = some x -> ∀ k, Ct x.name = some k -> k.ok w g
theorem GK.ok.keep {k : GK} {g : Nat} {w w' : World} (h : k.ok w g) (hk : ∀ b : Nat, b < w.heap.size -> w'.heap[b]? = w.heap[b]?) : k.ok w' g := by
 have cell : ∀ v, w.cell? ⟨g, 0, none⟩ = some v -> w'.cell? ⟨g, 0, none⟩ = some v := fun v hv => by
  have hlt : g < w.heap.size := by
   rcases Nat.lt_or_ge g w.heap.size with hlt | hge
   ·exact hlt
   ·simp [World.cell?, Array.getElem?_eq_none hge] at hv
  unfold World.cell? at *
  rw [hk g hlt]
  exact hv
 cases k with
 | int k => obtain ⟨m, hm⟩ := h; exact ⟨m, cell _ hm⟩
 | any => obtain ⟨v, hv, hk2⟩ := h; exact ⟨v, cell _ hv, hk2⟩
 | tab k zs =>
  obtain ⟨a, b, hm⟩ := h
  exact ⟨a, b, (hk g (Array.getElem?_eq_some_iff.1 hm).1).trans hm⟩
theorem Glob.keep {P : Program} {w w' : World} (h : Glob P w) (hk : ∀ b : Nat, b < w.heap.size -> w'.heap[b]? = w.heap[b]?) : Glob P w' :=
 fun g x hx k hn => (h g x hx k hn).keep hk
structure Ctx where
 P : Program
 N0 : Nat -> Nat -> Prop
 w0 : World
 Ii : Nat -> Nat -> Prop
 glob : ∀ w' : World, Keep Ii w0 w' -> Glob P w'
 fix : List (Option Nat)
def owns (β : Nat -> Pl) (h : List Ob) (b j : Nat) : Prop := ∃ (id : Nat) (o : Ob), h[id]? = some o ∧ o.wr = true ∧ o.at (β id) b j
def Ctx.N (C : Ctx) (β : Nat -> Pl) (h : List Ob) (b j : Nat) : Prop := C.N0 b j ∨ owns β h b j
structure bG (C : Ctx) (β : Nat -> Pl) (h : List Ob) (w : World) : Prop where
 obj : ∀ (id : Nat) (o : Ob), h[id]? = some o -> o.Rel β w (C.N β h) (β id)
 dead : ∀ id : Nat, h.length <= id -> (β id).live = false
 jY : ∀ (i j : Nat) (o o' : Ob) (b : Nat), h[i]? = some o -> h[j]? = some o' -> o.blks (β i) b -> o'.blks (β j) b -> i = j
 fQ : ∀ (id : Nat) (o : Ob) (b : Nat), h[id]? = some o -> o.blks (β id) b -> (∀ j, ¬ C.N0 b j) ∧ b < w.heap.size ∧ (C.w0.heap.size <= b ∨ ∀ j, o.wr = true -> o.at (β id) b j -> C.Ii b j)
 n0 : ∀ b j : Nat, C.N0 b j -> b < C.w0.heap.size
 frame : Keep C.Ii C.w0 w
 size : C.w0.heap.size <= w.heap.size
 os : w.os = C.w0.os
 tape : w.tape = C.w0.tape
 output : w.output = C.w0.output
 fixed : ∀ (j : Nat) (o : Option Nat), C.fix[j]? = some o -> j < h.length ∧ ∀ b, o = some b -> (β j).blk = some b ∧ (β j).box = true
theorem bG.apart {C : Ctx} {β : Nat -> Pl} {h : List Ob} {w : World} (hs : bG C β h w) (i j : Nat) (o o' : Ob) (b : Nat) (h1 : h[i]? = some o) (h2 : h[j]? = some o') (h3 : (β i).blk = some b) (h4 : (β j).blk = some b) : i = j := hs.jY i j o o' b h1 h2 (Ob.lD h3) (Ob.lD h4)
theorem bG.oF {C : Ctx} {β : Nat -> Pl} {h : List Ob} {w : World} (hs : bG C β h w) {id : Nat} {o o' : Ob} {p : Pl} {b : Nat} (h1 : h[id]? = some o) (ht : o'.gZ = o.gZ) (hb : p.blk = (β id).blk) (hsb : p.sub = (β id).sub) (hw : o'.wr = true -> o.wr = true)
  (hbl : o'.blks p b) : (∀ j, ¬ C.N0 b j) ∧ b < w.heap.size ∧ (C.w0.heap.size <= b ∨ ∀ j, o'.wr = true -> o'.at p b j -> C.Ii b j) := by
 obtain ⟨k1, k2, k3⟩ := hs.fQ id o b h1 (Ob.gL ht hb hsb hbl)
 exact ⟨k1, k2, k3.imp (fun h => h) fun h j g1 g2 => h j (hw g1) (Ob.uT ht hb hsb g2)⟩
theorem bG.fresh {C : Ctx} {β : Nat -> Pl} {h : List Ob} {w : World} (hs : bG C β h w) (id : Nat) (o : Ob) (b : Nat) (h1 : h[id]? = some o) (h2 : (β id).blk = some b) : (∀ j, ¬ C.N0 b j) ∧ b < w.heap.size ∧ (C.w0.heap.size <= b ∨ ∀ j, o.wr = true -> C.Ii b j) := by
 obtain ⟨k1, k2, k3⟩ := hs.fQ id o b h1 (Ob.lD h2)
 exact ⟨k1, k2, k3.imp (fun h => h) fun h j hw => h j hw (Ob.iJ h2)⟩
structure Sim (C : Ctx) (β : Nat -> Pl) (σ : St) (a : Act) (w : World) : Prop where
 heap : bG C β σ.h w
 defers : a.defers = []
 size : σ.r.length = a.tmps.size
 reg : ∀ (i : Nat) (v : V), σ.r[i]? = some v -> v.Rel β w (C.N β σ.h) (a.tmps.getD i undef)
def Moves (β β' : Nat -> Pl) : Prop := ∀ id : Nat, (β id).live = true -> β' id = β id ∨ ((β id).box = false ∧ (β' id).live = true ∧ (β' id).box = false ∧ (β id).ver < (β' id).ver)
theorem Moves.refl (β : Nat -> Pl) : Moves β β := fun _ _ => .inl rfl
theorem Moves.trans {a b c : Nat -> Pl} (h : Moves a b) (h' : Moves b c) : Moves a c := fun id hl => by
 rcases h id hl with e | ⟨h1, h2, h3, h4⟩
 ·rcases h' id (e ▸ hl) with e' | ⟨g1, g2, g3, g4⟩
  ·exact .inl (e'.trans e)
  ·exact .inr ⟨e ▸ g1, g2, g3, e ▸ g4⟩
 ·rcases h' id h2 with e' | ⟨g1, g2, g3, g4⟩
  ·exact .inr ⟨h1, e' ▸ h2, e' ▸ h3, e' ▸ h4⟩
  ·exact .inr ⟨h1, g2, g3, Nat.lt_trans h4 g4⟩
section mono
variable {β β' : Nat -> Pl} {w w' : World} {N N' : Nat -> Nat -> Prop}
theorem RP.mono (hk : Keep N w w') (hN : ∀ b j, b < w.heap.size -> N' b j -> N b j) {t : Ty} {x : t.den} {off : Nat} {c : Value} (h : RP w N t x off c) : RP w' N' t x off c := by
 obtain ⟨b, o, cs, hc, hb, hn, hr, hcs⟩ := h
 exact ⟨b, o, cs, hc, Nat.lt_of_lt_of_le hb hk.size, fun j h1 h2 h => hn j h1 h2 (hN b j hb h), hr.mono hk hN, hk.cells hb hn hcs⟩
mutual
theorem L.Rel.mono (hm : Moves β β') (hk : Keep N w w') (hN : ∀ b j, b < w.heap.size -> N' b j -> N b j) : ∀ {l : L} {cs : List Value}, l.Rel β w N cs -> l.Rel β' w' N' cs
 | .val t x, cs, h => by simp only [L.Rel] at *; exact Ty.Rel.mono hk hN h
 | .ptr id off, cs, h => by
  simp only [L.Rel] at *
  obtain ⟨h1, h2, h3⟩ := h
  rcases hm id h1 with e | ⟨h4, _⟩
  ·rw [e]; exact ⟨h1, h2, h3⟩
  ·rw [h2] at h4; cases h4
 | .eY id off es i sub, cs, h => by
  simp only [L.Rel] at *
  obtain ⟨h1, h2, h3⟩ := h
  rcases hm id h1 with e | ⟨h4, _⟩
  ·rw [e]; exact ⟨h1, h2, h3⟩
  ·rw [h2] at h4; cases h4
 | .gI, cs, h => by simp only [L.Rel] at *; exact h
 | .bM id off, cs, h => by
  simp only [L.Rel] at *
  obtain ⟨c, e, h⟩ := h
  refine ⟨c, e, ?_⟩
  rcases h with h | ⟨h1, h2, h3⟩
  ·exact .inl h
  ·rcases hm id h1 with e | ⟨h4, _⟩
   ·rw [e]; exact .inr ⟨h1, h2, h3⟩
   ·rw [h2] at h4; cases h4
 | .bW id ver i off, cs, h => by
  simp only [L.Rel] at *
  obtain ⟨h1, h2, h3, c, h4, h5, h6⟩ := h
  rcases hm id h1 with e | ⟨h7, h8, h9, h10⟩
  ·rw [e]; exact ⟨h1, h2, h3, c, h4, h5, h6⟩
  ·exact ⟨h8, h9, by omega, c, h4, h5, fun hv => by omega⟩
 | .dX t x off, cs, h => by simp only [L.Rel] at *; obtain ⟨c, hc, hr⟩ := h; exact ⟨c, hc, hr.mono hk hN⟩
 | .sl id ver off len, cs, h => by
  simp only [L.Rel] at *
  obtain ⟨h1, h2, h3, c, h4, h5, h6⟩ := h
  rcases hm id h1 with e | ⟨h7, h8, h9, h10⟩
  ·rw [e]; exact ⟨h1, h2, h3, c, h4, h5, h6⟩
  ·exact ⟨h8, h9, by omega, c, h4, h5, fun hv => by omega⟩
 | .own id ver, cs, h => by
  simp only [L.Rel] at *
  obtain ⟨h1, h2, h3, c, h4, h5, h6⟩ := h
  rcases hm id h1 with e | ⟨h7, h8, h9, h10⟩
  ·rw [e]; exact ⟨h1, h2, h3, c, h4, h5, h6⟩
  ·exact ⟨h8, h9, by omega, c, h4, h5, fun hv => by omega⟩
 | .aS, cs, h => by simp only [L.Rel] at *; exact h
 | .clo f caps, cs, h => by
  simp only [L.Rel] at *
  obtain ⟨us, hc, hr⟩ := h
  exact ⟨us, hc, L.aU.mono hm hk hN hr⟩
 | .bad n, cs, h => by simp only [L.Rel] at *; exact h
 | .mp id, cs, h => by
  simp only [L.Rel] at *
  obtain ⟨h1, h2, h3⟩ := h
  rcases hm id h1 with e | ⟨h4, _⟩
  ·rw [e]; exact ⟨h1, h2, h3⟩
  ·rw [h2] at h4; cases h4
 | .oZ x tab, cs, h => by simp only [L.Rel] at *; exact h
theorem L.aU.mono (hm : Moves β β') (hk : Keep N w w') (hN : ∀ b j, b < w.heap.size -> N' b j -> N b j) : ∀ {ls : List L} {us : List Value}, L.aU β w N ls us -> L.aU β' w' N' ls us
 | [], us, h => by simp only [L.aU] at *; exact h
 | l :: ls, us, h => by
  simp only [L.aU] at *
  obtain ⟨u, r, e, h1, h2⟩ := h
  exact ⟨u, r, e, L.Rel.mono hm hk hN h1, L.aU.mono hm hk hN h2⟩
end
theorem aC.mono (hm : Moves β β') (hk : Keep N w w') (hN : ∀ b j, b < w.heap.size -> N' b j -> N b j) : ∀ {ls : List L} {cs : List Value}, aC β w N ls cs -> aC β' w' N' ls cs
 | [], _, h => h
 | _ :: _, _, ⟨c1, c2, e, h1, h2⟩ => ⟨c1, c2, e, h1.mono hm hk hN, aC.mono hm hk hN h2⟩
theorem dO.mono (hm : Moves β β') (hk : Keep N w w') (hN : ∀ b j, b < w.heap.size -> N' b j -> N b j) : ∀ {s : Sum L (List L)} {v : Value}, dO β w N s v -> dO β' w' N' s v
 | .inl _, _, h => L.Rel.mono hm hk hN h
 | .inr _, _, ⟨cs, e, h⟩ => ⟨cs, e, h.mono hm hk hN⟩
theorem V.Rel.mono (hm : Moves β β') (hk : Keep N w w') (hN : ∀ b j, b < w.heap.size -> N' b j -> N b j) : ∀ {x : V} {v : Value}, x.Rel β w N v -> x.Rel β' w' N' v
 | .one _, _, h => L.Rel.mono hm hk hN h
 | .agg _, _, ⟨cs, e, h⟩ => ⟨cs, e, h.mono hm hk hN⟩
 | .tup _, _, ⟨us, e, h⟩ => ⟨us, e, h.mono fun _ _ => dO.mono hm hk hN⟩
 | .aN, _, _ => trivial
end mono
theorem L.Rel.length {β : Nat -> Pl} {w : World} {N : Nat -> Nat -> Prop} : ∀ {l : L} {cs : List Value}, l.Rel β w N cs -> cs.length = l.size
 | .val t x, _, h => by simp only [L.Rel] at h; exact h.length
 | .ptr .., _, h => by simp only [L.Rel] at h; obtain ⟨_, _, b, _, rfl⟩ := h; rfl
 | .eY .., _, h => by simp only [L.Rel] at h; obtain ⟨_, _, b, _, rfl⟩ := h; rfl
 | .gI, _, h => by simp only [L.Rel] at h; subst h; rfl
 | .bM .., _, h => by simp only [L.Rel] at h; obtain ⟨c, rfl, _⟩ := h; rfl
 | .bW .., _, h => by simp only [L.Rel] at h; obtain ⟨_, _, _, c, rfl, _⟩ := h; rfl
 | .dX .., _, h => by simp only [L.Rel] at h; obtain ⟨c, rfl, _⟩ := h; rfl
 | .sl .., _, h => by simp only [L.Rel] at h; obtain ⟨_, _, _, c, rfl, _⟩ := h; rfl
 | .own .., _, h => by simp only [L.Rel] at h; obtain ⟨_, _, _, c, rfl, _⟩ := h; rfl
 | .aS, _, h => by simp only [L.Rel] at h; subst h; rfl
 | .clo .., _, h => by simp only [L.Rel] at h; obtain ⟨us, rfl, _⟩ := h; rfl
 | .bad n, _, h => by simp only [L.Rel] at h; exact h.1
 | .mp .., _, h => by simp only [L.Rel] at h; obtain ⟨_, _, b, _, rfl⟩ := h; rfl
 | .oZ .., _, h => by simp only [L.Rel] at h; subst h; rfl
theorem L.Rel.one {β : Nat -> Pl} {w : World} {N : Nat -> Nat -> Prop} : ∀ {l : L} {cs : List Value}, l.Rel β w N cs -> ∀ c ∈ cs, c.oneCell' = true
 | .val t x, _, h => by simp only [L.Rel] at h; exact h.one
 | .ptr .., _, h => by simp only [L.Rel] at h; obtain ⟨_, _, b, _, rfl⟩ := h; simp [Value.oneCell']
 | .eY .., _, h => by simp only [L.Rel] at h; obtain ⟨_, _, b, _, rfl⟩ := h; simp [Value.oneCell']
 | .gI, _, h => by simp only [L.Rel] at h; subst h; simp [Value.oneCell']
 | .bM .., _, h => by
  simp only [L.Rel] at h
  obtain ⟨c, rfl, h⟩ := h
  rcases h with rfl | ⟨_, _, b, _, rfl⟩ <;> simp [Value.oneCell']
 | .bW .., _, h => by simp only [L.Rel] at h; obtain ⟨_, _, _, c, rfl, h, _⟩ := h; simpa using h
 | .dX .., _, h => by simp only [L.Rel] at h; obtain ⟨c, rfl, b, o, cs, rfl, _⟩ := h; simp [Value.oneCell']
 | .sl .., _, h => by simp only [L.Rel] at h; obtain ⟨_, _, _, c, rfl, h, _⟩ := h; simpa using h
 | .own .., _, h => by simp only [L.Rel] at h; obtain ⟨_, _, _, c, rfl, h, _⟩ := h; simpa using h
 | .aS, _, h => by simp only [L.Rel] at h; subst h; simp [Value.oneCell']
 | .clo .., _, h => by simp only [L.Rel] at h; obtain ⟨us, rfl, _⟩ := h; simp [Value.oneCell']
 | .bad n, _, h => by simp only [L.Rel] at h; exact h.2
 | .mp .., _, h => by simp only [L.Rel] at h; obtain ⟨_, _, b, _, rfl⟩ := h; simp [Value.oneCell']
 | .oZ x tab, _, h => by simp only [L.Rel] at h; subst h; unfold Eo; split <;> simp [Value.oneCell']
theorem aC.one {β : Nat -> Pl} {w : World} {N : Nat -> Nat -> Prop} : ∀ {ls : List L} {cs : List Value}, aC β w N ls cs -> ∀ c ∈ cs, c.oneCell' = true
 | [], _, h => by simp only [aC] at h; subst h; simp
 | l :: ls, _, ⟨c1, c2, e, h1, h2⟩ => by
  subst e
  intro c hc
  rcases List.mem_append.1 hc with hc | hc
  ·exact h1.one c hc
  ·exact aC.one h2 c hc
theorem aC.append {β : Nat -> Pl} {w : World} {N : Nat -> Nat -> Prop} : ∀ {ls : List L} {cs : List Value} {ls' : List L} {cs' : List Value}, aC β w N ls cs -> aC β w N ls' cs' -> aC β w N (ls ++ ls') (cs ++ cs')
 | [], _, _, _, h, h' => by simp only [aC] at h; subst h; exact h'
 | l :: ls, _, _, _, ⟨c1, c2, e, h1, h2⟩, h' => ⟨c1, c2 ++ _, by rw [e, List.append_assoc], h1, aC.append h2 h'⟩
theorem aC.split {β : Nat -> Pl} {w : World} {N : Nat -> Nat -> Prop} : ∀ {ls ls' : List L} {cs : List Value}, aC β w N (ls ++ ls') cs -> ∃ c1 c2, cs = c1 ++ c2 ∧ aC β w N ls c1 ∧ aC β w N ls' c2
 | [], _, cs, h => ⟨[], cs, rfl, rfl, h⟩
 | l :: ls, _, _, ⟨c1, c2, e, h1, h2⟩ =>
  let ⟨d1, d2, e', h3, h4⟩ := aC.split h2
  ⟨c1 ++ d1, d2, by rw [e, e', List.append_assoc], ⟨c1, d1, rfl, h1, h3⟩, h4⟩
def sizes (ls : List L) : Nat := ls.foldr (fun l n => l.size + n) 0
theorem aC.length {β : Nat -> Pl} {w : World} {N : Nat -> Nat -> Prop} : ∀ {ls : List L} {cs : List Value}, aC β w N ls cs -> cs.length = sizes ls
 | [], _, h => by simp only [aC] at h; subst h; rfl
 | l :: ls, _, ⟨c1, c2, e, h1, h2⟩ => by subst e; simp [sizes, h1.length, aC.length h2]
def explode : (t : Ty) -> t.den -> List L
 | .unit, _ => []
 | .pair a b, x => explode a x.1 ++ explode b x.2
 | .bool, x => [.val .bool x]
 | .int k, x => [.val (.int k) x]
 | .str, x => [.val .str x]
 | .err, x => [.val .err x]
 | .opq, x => [.val .opq x]
 | .arr n a, x => [.val (.arr n a) x]
 | .slice a, x => [.val (.slice a) x]
theorem dJ {β : Nat -> Pl} {w : World} {N : Nat -> Nat -> Prop} : ∀ {t : Ty} {x : t.den} {cs : List Value}, t.Rel w N x cs -> aC β w N (explode t x) cs
 | .unit, _, _, h => h
 | .pair a b, _, _, ⟨c1, c2, e, h1, h2⟩ => by subst e; exact (dJ (t := a) h1).append (dJ (t := b) h2)
 | .bool, _, _, h => ⟨_, [], (List.append_nil _).symm, by simpa only [L.Rel] using h, rfl⟩
 | .int _, _, _, h => ⟨_, [], (List.append_nil _).symm, by simpa only [L.Rel] using h, rfl⟩
 | .str, _, _, h => ⟨_, [], (List.append_nil _).symm, by simpa only [L.Rel] using h, rfl⟩
 | .err, _, _, h => ⟨_, [], (List.append_nil _).symm, by simpa only [L.Rel] using h, rfl⟩
 | .opq, _, _, h => ⟨_, [], (List.append_nil _).symm, by simpa only [L.Rel] using h, rfl⟩
 | .arr _ _, _, _, h => ⟨_, [], (List.append_nil _).symm, by simpa only [L.Rel] using h, rfl⟩
 | .slice _, _, _, h => ⟨_, [], (List.append_nil _).symm, by simpa only [L.Rel] using h, rfl⟩
def L.asT (t : Ty) : L -> Option t.den
 | .val t' x => if h : t' = t then some (h ▸ x) else none
 | .aS => match t with
  | .slice _ => some []
  | _ => none
 | .clo f [] => match t with
  | .opq => some (.func (.func f) #[] #[])
  | _ => none
 | _ => none
theorem L.Ij {β : Nat -> Pl} {w : World} {N : Nat -> Nat -> Prop} {t : Ty} {l : L} {x : t.den} {cs : List Value} (h : l.asT t = some x) (hr : l.Rel β w N cs) : t.Rel w N x cs := by
 cases l with
 | val t' y =>
  simp only [L.asT] at h
  split at h
  ·rename_i e
   subst e
   simp only [Option.some.injEq] at h
   subst h
   simpa only [L.Rel] using hr
  ·cases h
 | aS =>
  simp only [L.Rel] at hr
  subst hr
  cases t with
  | slice a =>
   simp only [L.asT, Option.some.injEq] at h
   exact ⟨_, rfl, .inl ⟨rfl, h.symm⟩⟩
  | _ => simp [L.asT] at h
 | clo f caps =>
  cases caps with
  | cons _ _ => simp [L.asT] at h
  | nil =>
   simp only [L.Rel] at hr
   obtain ⟨us, rfl, hu⟩ := hr
   simp only [L.aU] at hu
   subst hu
   cases t with
   | opq =>
    simp only [L.asT, Option.some.injEq] at h
    subst h
    exact ⟨rfl, rfl⟩
   | _ => simp [L.asT] at h
 | _ => simp [L.asT] at h
def aW : (t : Ty) -> List L -> Option (t.den × List L)
 | .unit, ls => some ((), ls)
 | .pair a b, ls =>
  match aW a ls with
  | some (x, ls) =>
   match aW b ls with
   | some (y, ls) => some ((x, y), ls)
   | none => none
  | none => none
 | .bool, l :: ls => (l.asT .bool).map (·, ls)
 | .int k, l :: ls => (l.asT (.int k)).map (·, ls)
 | .str, l :: ls => (l.asT .str).map (·, ls)
 | .err, l :: ls => (l.asT .err).map (·, ls)
 | .opq, l :: ls => (l.asT .opq).map (·, ls)
 | .arr n a, l :: ls => (l.asT (.arr n a)).map (·, ls)
 | .slice a, l :: ls => (l.asT (.slice a)).map (·, ls)
 | _, [] => none
theorem fT {β : Nat -> Pl} {w : World} {N : Nat -> Nat -> Prop} {t : Ty} {l : L} {ls ls' : List L} {x : t.den} {cs : List Value}
  (h : (l.asT t).map (·, ls) = some (x, ls')) (hr : aC β w N (l :: ls) cs) : ∃ c1 c2, cs = c1 ++ c2 ∧ t.Rel w N x c1 ∧ aC β w N ls' c2 := by
 obtain ⟨c1, c2, e, h1, h2⟩ := hr
 cases ha : l.asT t with
 | none => rw [ha] at h; cases h
 | some y =>
  rw [ha] at h
  simp only [Option.map_some, Option.some.injEq, Prod.mk.injEq] at h
  obtain ⟨rfl, rfl⟩ := h
  exact ⟨c1, c2, e, L.Ij ha h1, h2⟩
theorem iX {β : Nat -> Pl} {w : World} {N : Nat -> Nat -> Prop} : ∀ {t : Ty} {ls ls' : List L} {x : t.den} {cs : List Value}, aW t ls = some (x, ls') -> aC β w N ls cs ->
  ∃ c1 c2, cs = c1 ++ c2 ∧ t.Rel w N x c1 ∧ aC β w N ls' c2
 | .unit, _, _, _, cs, h, hr => by
  simp only [aW, Option.some.injEq, Prod.mk.injEq] at h
  obtain ⟨_, rfl⟩ := h
  exact ⟨[], cs, rfl, rfl, hr⟩
 | .pair a b, ls, ls', x, cs, h, hr => by
  simp only [aW] at h
  split at h
  ·rename_i y l1 h1
   split at h
   ·rename_i z l2 h2
    simp only [Option.some.injEq, Prod.mk.injEq] at h
    obtain ⟨rfl, rfl⟩ := h
    obtain ⟨c1, c2, e1, r1, s1⟩ := iX (t := a) h1 hr
    obtain ⟨d1, d2, e2, r2, s2⟩ := iX (t := b) h2 s1
    exact ⟨c1 ++ d1, d2, by rw [e1, e2, List.append_assoc], ⟨c1, d1, rfl, r1, r2⟩, s2⟩
   ·cases h
  ·cases h
 | .bool, l :: ls, _, _, _, h, hr => by simp only [aW] at h; exact fT h hr
 | .int k, l :: ls, _, _, _, h, hr => by simp only [aW] at h; exact fT h hr
 | .str, l :: ls, _, _, _, h, hr => by simp only [aW] at h; exact fT h hr
 | .err, l :: ls, _, _, _, h, hr => by simp only [aW] at h; exact fT h hr
 | .opq, l :: ls, _, _, _, h, hr => by simp only [aW] at h; exact fT h hr
 | .arr n a, l :: ls, _, _, _, h, hr => by simp only [aW] at h; exact fT h hr
 | .slice a, l :: ls, _, _, _, h, hr => by simp only [aW] at h; exact fT h hr
 | .bool, [], _, _, _, h, _ => by simp [aW] at h
 | .int k, [], _, _, _, h, _ => by simp [aW] at h
 | .str, [], _, _, _, h, _ => by simp [aW] at h
 | .err, [], _, _, _, h, _ => by simp [aW] at h
 | .opq, [], _, _, _, h, _ => by simp [aW] at h
 | .arr n a, [], _, _, _, h, _ => by simp [aW] at h
 | .slice a, [], _, _, _, h, _ => by simp [aW] at h
end Go.Dec
namespace Go.Dec
theorem aC.single {β : Nat -> Pl} {w : World} {N : Nat -> Nat -> Prop} {l : L} {c : Value} (h : l.Rel β w N [c]) : aC β w N [l] [c] := ⟨[c], [], rfl, h, rfl⟩
def yT : Value -> L
 | .bool b => .val .bool b
 | .int k n => .val (.int k) n
 | .string s => .val .str s.data.toList
 | .pointer none => .gI
 | .slice none 0 0 => .aS
 | .nilFunc => .val .opq .nilFunc
 | .map none => .val .opq (.map none)
 | .nilIface => .val .err false
 | .iface t v => .val .opq (.iface t v)
 | _ => .bad 1
theorem Ep {β : Nat -> Pl} {w : World} {N : Nat -> Nat -> Prop} (v : Value) (h : v.oneCell' = true) : (yT v).Rel β w N [v] := by
 unfold yT
 split <;> simp only [L.Rel, Ty.Rel]
 case h_6 => exact ⟨trivial, rfl⟩
 case h_7 => exact ⟨trivial, rfl⟩
 case h_8 => exact ⟨_, rfl, .inr ⟨trivial, rfl⟩⟩
 case h_9 => exact ⟨trivial, rfl⟩
 case h_10 => exact ⟨rfl, by intro c hc; simp at hc; subst hc; exact h⟩
def ovl (σ : St) : Operand -> V
 | .tmp t => σ.r.getD t .aN
 | .const v => match v with
  | .agg _ | .tuple _ => .aN
  | v => .one (yT v)
 | .func f => .one (.clo f [])
 | .global _ => .aN
theorem aG {C : Ctx} {β : Nat -> Pl} {σ : St} {a : Act} {w : World} (h : Sim C β σ a w) (x : Operand) : (ovl σ x).Rel β w (C.N β σ.h) (a.eval x) := by
 cases x with
 | tmp t =>
  simp only [ovl, Act.eval, List.getD_eq_getElem?_getD]
  cases ht : σ.r[t]? with
  | none => simp [V.Rel]
  | some v => simpa using h.reg t v ht
 | const v =>
  simp only [ovl, Act.eval]
  split
  ·trivial
  ·trivial
  ·rename_i h1 h2
   exact Ep _ (by cases v <;> first | rfl | exact absurd rfl (h1 _) | exact absurd rfl (h2 _))
 | func f => simp only [ovl, Act.eval, V.Rel, L.Rel]; exact ⟨[], rfl, by simp only [L.aU]⟩
 | global g => trivial
def sN (k : IntKind) (op : BinOp) (x y : Int) : Int :=
 let a := BitVec.ofInt k.bits x
 let b := BitVec.ofInt k.bits y
 match op with
 | .and => k.wrap (a &&& b).toNat
 | .or => k.wrap (a ||| b).toNat
 | .xor => k.wrap (a ^^^ b).toNat
 | .andNot => k.wrap (a &&& ~~~b).toNat
 | _ => 0
def zFi (k : IntKind) (x y : Int) : Int := k.wrap (x * 2 ^ (min y.toNat k.bits))
def zFj (k : IntKind) (x y : Int) : Int := x.fdiv (2 ^ (min y.toNat k.bits))
def Yr : Nat := 4611686018427387904
def zAq (op : BinOp) (k : IntKind) (a b : Int) : Option (Bool × L) :=
 match op with
 | .add => some (true, .val (.int k) (k.wrap (a + b)))
 | .sub => some (true, .val (.int k) (k.wrap (a - b)))
 | .mul => some (true, .val (.int k) (k.wrap (a * b)))
 | .quo => some (!decide (b = 0), .val (.int k) (k.wrap (a.tdiv b)))
 | .rem => some (!decide (b = 0), .val (.int k) (a.tmod b))
 | .and => some (true, .val (.int k) (sN k .and a b))
 | .or => some (true, .val (.int k) (sN k .or a b))
 | .xor => some (true, .val (.int k) (sN k .xor a b))
 | .andNot => some (true, .val (.int k) (sN k .andNot a b))
 | .eql => some (true, .val .bool (a == b))
 | .neq => some (true, .val .bool (a != b))
 | .lss => some (true, .val .bool (decide (a < b)))
 | .leq => some (true, .val .bool (decide (a <= b)))
 | .gtr => some (true, .val .bool (decide (a > b)))
 | .geq => some (true, .val .bool (decide (a ≥ b)))
 | _ => none
def Oe (op : BinOp) (k : IntKind) (a b : Int) : Option (Bool × L) :=
 match op with
 | .shl => some (decide (0 <= b), .val (.int k) (zFi k a b))
 | .shr => some (decide (0 <= b), .val (.int k) (zFj k a b))
 | _ => none
def zAr (op : BinOp) (a b : List UInt8) : Option (Bool × L) :=
 match op with
 | .add => some (decide (a.length + b.length <= Yr), .val .str (a ++ b))
 | .eql => some (true, .val .bool (a == b))
 | .neq => some (true, .val .bool (!(a == b)))
 | .lss => some (true, .val .bool (Op.bytesLess a b))
 | .leq => some (true, .val .bool (Op.bytesLess a b || a == b))
 | .gtr => some (true, .val .bool (!(Op.bytesLess a b || a == b)))
 | .geq => some (true, .val .bool (!Op.bytesLess a b))
 | _ => none
def Ma (op : BinOp) (a b : Bool) : Option (Bool × L) :=
 match op with
 | .eql => some (true, .val .bool (a == b))
 | .neq => some (true, .val .bool (!(a == b)))
 | _ => none
def Ik : BinOp -> Bool
 | .shl | .shr => true
 | _ => false
def bin (op : BinOp) (x y : L) : Option (Bool × L) :=
 match x, y with
 | .val (.int k) a, .val (.int k') b => if Ik op then Oe op k a b else if k = k' then zAq op k a b else none
 | .val .str a, .val .str b => zAr op a b
 | .val .bool a, .val .bool b => Ma op a b
 | _, _ => none
theorem toList_mk (l : List UInt8) : (ByteArray.mk l.toArray).toList = l := by
 rw [ByteArray.toList_eq]
theorem size_mk (l : List UInt8) : (ByteArray.mk l.toArray).size = l.length := by
 simp [ByteArray.size]
theorem Yt (a b : List UInt8) : (ByteArray.mk a.toArray) ++ (ByteArray.mk b.toArray) = ByteArray.mk (a ++ b).toArray := by
 apply ByteArray.ext
 simp
section run
variable {P : Program} {β : Nat -> Pl} {w : World} {N : Nat -> Nat -> Prop}
theorem zAs {op : BinOp} {k : IntKind} {a b : Int} {l : L} (xt : TypeId) (hs : Ik op = false) (h : zAq op k a b = some (true, l)) :
    ∃ v, (binOp op xt (.int k a) (.int k b)).run P w = .ok v w ∧ l.Rel β w N [v] := by
  cases op <;> simp only [zAq, Option.some.injEq, Prod.mk.injEq, reduceCtorEq, Ik] at h hs <;> (try cases hs) <;> obtain ⟨h0, rfl⟩ := h <;>
    simp only [binOp, ne_eq, not_true_eq_false, if_false, Op.intArith, Op.intBits, Op.intCmp, Op.intDiv, Sem.run_pure] <;> first
    | exact ⟨_, rfl, by simp only [L.Rel, Ty.Rel, sN]⟩
    | (have hb : ¬ b = 0 := by simpa using h0
       simp only [hb, if_false, Sem.run_pure]
       exact ⟨_, rfl, by simp only [L.Rel, Ty.Rel]⟩)
theorem Va {op : BinOp} {k k' : IntKind} {a b : Int} {l : L} (xt : TypeId) (h : Oe op k a b = some (true, l)) :
    ∃ v, (binOp op xt (.int k a) (.int k' b)).run P w = .ok v w ∧ l.Rel β w N [v] := by
  cases op <;> simp only [Oe, Option.some.injEq, Prod.mk.injEq, reduceCtorEq] at h <;> obtain ⟨h0, rfl⟩ := h <;>
    (have hb : ¬ b < 0 := by have := of_decide_eq_true h0; omega
     simp only [binOp, Op.shift, hb, if_false, Sem.run_pure]
     exact ⟨_, rfl, by simp only [L.Rel, Ty.Rel, zFi, zFj]⟩)
theorem zAt {op : BinOp} {a b : List UInt8} {l : L} (xt : TypeId) (h : zAr op a b = some (true, l)) :
    ∃ v, (binOp op xt (.string ⟨a.toArray⟩) (.string ⟨b.toArray⟩)).run P w = .ok v w ∧ l.Rel β w N [v] := by
  cases op <;> simp only [zAr, Option.some.injEq, Prod.mk.injEq, reduceCtorEq] at h <;> obtain ⟨h0, rfl⟩ := h <;>
    simp only [binOp, Op.stringOp, toList_mk, size_mk, Yt, Sem.run_pure] <;> first
    | exact ⟨_, rfl, by simp only [L.Rel, Ty.Rel]⟩
    | (have hb : ¬ (((a.length + b.length : Nat) : Int) > IntKind.i64.max) := by
         have := of_decide_eq_true h0
         simp only [Yr] at this
         simp only [IntKind.max, IntKind.signed, IntKind.bits]
         omega
       simp only [hb, if_false, Sem.run_pure]
       exact ⟨_, rfl, by simp only [L.Rel, Ty.Rel]⟩)
theorem Yu {op : BinOp} {a b : Bool} {l : L} (xt : TypeId) (ht : P.underlying xt = some .bool) (h : Ma op a b = some (true, l)) :
    ∃ v, (binOp op xt (.bool a) (.bool b)).run P w = .ok v w ∧ l.Rel β w N [v] := by
  cases op <;> simp only [Ma, Option.some.injEq, Prod.mk.injEq, reduceCtorEq] at h <;> obtain ⟨h0, rfl⟩ := h <;>
    (simp only [binOp, Op.equal, Op.maxDepth, Sem.run_bind, run_equalIn_bool' w _ xt a b ht, Result.andThen_ok, Sem.run_pure]
     exact ⟨_, rfl, by simp only [L.Rel, Ty.Rel]⟩)
end run
end Go.Dec
