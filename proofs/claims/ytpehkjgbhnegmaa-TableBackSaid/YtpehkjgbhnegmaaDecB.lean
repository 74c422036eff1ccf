/- The second part: machine values (L, V), own objects, and how a symbolic state stands to a frame and a world (Sim). No statement is proved here. -/
import Derived.Test.YtpehkjgbhnegmaaDecA
namespace Go.Dec

/-- One part of a value: data, or something of the machine. -/
inductive L where
  | val (t : Ty) (x : t.den)
  /-- into an own box -/
  | ptr (id off : Nat)
  /-- into an array that lies in an own box: cell 'sub' of element 'i', each of 'es' cells -/
  | aptr (id off es i sub : Nat)
  | nilp
  /-- nil, or into an own box -/
  | ornil (id off : Nat)
  /-- into an own row: row 'i', cell 'off' of it -/
  | eptr (id ver i off : Nat)
  /-- into memory that nobody writes: cell 'off' of 'x' -/
  | rptr (t : Ty) (x : t.den) (off : Nat)
  /-- a slice over an own row -/
  | sl (id ver off len : Nat)
  /-- a slice over the whole of an own row -/
  | own (id ver : Nat)
  /-- a slice that is nil, its type not looked at -/
  | nils
  | clo (f : Nat) (caps : List L)
  | bad (size : Nat)

inductive V where
  | one (l : L)
  | agg (ls : List L)
  | tup (vs : List (Sum L (List L)))
  | poison

inductive Ob where
  | box (e : TypeId) (ls : List L)
  | arr (e : TypeId) (t : Ty) (ver : Nat) (rows : List t.den) (wr : Bool)

def L.size : L → Nat
  | .val t _ => t.size
  | .bad n => n
  | _ => 1

/-- Where an own object lies. -/
structure Pl where
  live : Bool
  box : Bool
  ver : Nat
  blk : Option Nat
  size : Nat
  cap : Nat
  len : Nat

/-- What 'rptr' says. -/
def RP (w : World) (N : Nat → Prop) (t : Ty) (x : t.den) (off : Nat) (c : Value) : Prop :=
  ∃ b o cs, c = .pointer (some ⟨b, o + off, none⟩) ∧ b < w.heap.size ∧ ¬ N b ∧ t.Rel w N x cs ∧ Cells w b o cs

def SlOwn (p : Pl) (off len : Nat) (c : Value) : Prop :=
  match p.blk with
  | none => c = .slice none 0 0 ∧ off = 0 ∧ len = 0
  | some b => off + len ≤ p.cap ∧ ∃ o, c = .slice (some ⟨b, o, none⟩) len (p.cap - off) ∧ (o = off * p.size ∨ (off = p.cap ∧ 0 < off))

mutual
def L.Rel (β : Nat → Pl) (w : World) (N : Nat → Prop) : L → List Value → Prop
  | .val t x, cs => t.Rel w N x cs
  | .ptr id off, cs => (β id).live = true ∧ (β id).box = true ∧ ∃ b, (β id).blk = some b ∧ cs = [.pointer (some ⟨b, off, none⟩)]
  | .aptr id off es i sub, cs => (β id).live = true ∧ (β id).box = true ∧ ∃ b, (β id).blk = some b ∧ cs = [.pointer (some ⟨b, off + i * es + sub, none⟩)]
  | .nilp, cs => cs = [.pointer none]
  | .ornil id off, cs => ∃ c, cs = [c] ∧ (c = .pointer none ∨ ((β id).live = true ∧ (β id).box = true ∧ ∃ b, (β id).blk = some b ∧ c = .pointer (some ⟨b, off, none⟩)))
  | .eptr id ver i off, cs => (β id).live = true ∧ (β id).box = false ∧ ver ≤ (β id).ver ∧ ∃ c, cs = [c] ∧ c.oneCell' = true ∧
      ((β id).ver = ver → ∃ b, (β id).blk = some b ∧ c = .pointer (some ⟨b, i * (β id).size + off, none⟩))
  | .rptr t x off, cs => ∃ c, cs = [c] ∧ RP w N t x off c
  | .sl id ver off len, cs => (β id).live = true ∧ (β id).box = false ∧ ver ≤ (β id).ver ∧ ∃ c, cs = [c] ∧ c.oneCell' = true ∧ ((β id).ver = ver → SlOwn (β id) off len c)
  | .own id ver, cs => (β id).live = true ∧ (β id).box = false ∧ ver ≤ (β id).ver ∧ ∃ c, cs = [c] ∧ c.oneCell' = true ∧ ((β id).ver = ver → SlOwn (β id) 0 (β id).len c)
  | .nils, cs => cs = [.slice none 0 0]
  | .clo f caps, cs => ∃ us, cs = [.func (.func f) #[] us.toArray] ∧ L.Rels1 β w N caps us
  | .bad n, cs => cs.length = n ∧ ∀ c ∈ cs, c.oneCell' = true
/-- One value each. -/
def L.Rels1 (β : Nat → Pl) (w : World) (N : Nat → Prop) : List L → List Value → Prop
  | [], us => us = []
  | l :: ls, us => ∃ u r, us = u :: r ∧ L.Rel β w N l [u] ∧ L.Rels1 β w N ls r
end

/-- Parts, one behind the other. -/
def LsRel (β : Nat → Pl) (w : World) (N : Nat → Prop) : List L → List Value → Prop
  | [], cs => cs = []
  | l :: ls, cs => ∃ c1 c2, cs = c1 ++ c2 ∧ l.Rel β w N c1 ∧ LsRel β w N ls c2

def V1Rel (β : Nat → Pl) (w : World) (N : Nat → Prop) : Sum L (List L) → Value → Prop
  | .inl l, v => l.Rel β w N [v]
  | .inr ls, v => ∃ cs : List Value, v = .agg cs.toArray ∧ LsRel β w N ls cs

def V.Rel (β : Nat → Pl) (w : World) (N : Nat → Prop) : V → Value → Prop
  | .one l, v => l.Rel β w N [v]
  | .agg ls, v => ∃ cs : List Value, v = .agg cs.toArray ∧ LsRel β w N ls cs
  | .tup vs, v => ∃ us : List Value, v = .tuple us.toArray ∧ All2 (V1Rel β w N) vs us
  | .poison, _ => True

def Ob.Rel (β : Nat → Pl) (w : World) (N : Nat → Prop) (p : Pl) : Ob → Prop
  | .box e ls => p.live = true ∧ p.box = true ∧ ∃ b cs, p.blk = some b ∧ LsRel β w N ls cs ∧ w.heap[b]? = some (.cells cs.toArray e (0, 0))
  | .arr e t ver rows _ => p.live = true ∧ p.box = false ∧ p.ver = ver ∧ p.size = t.size ∧ 0 < t.size ∧ p.len = rows.length ∧
      ((p.blk = none ∧ rows = [] ∧ p.cap = 0) ∨
       ∃ b cur css, p.blk = some b ∧ w.heap[b]? = some (.cells cur e (0, 0)) ∧ All2 (fun x c => t.Rel w N x c) rows css ∧ cur.toList.take (rows.length * t.size) = css.flatten ∧ cur.size = p.cap * t.size ∧ rows.length ≤ p.cap ∧ p.cap ≤ maxLen)

/-- May be written. -/
def Ob.wr : Ob → Bool
  | .box .. => true
  | .arr _ _ _ _ b => b

structure St where
  r : List V
  h : List Ob

def slash : String := String.singleton (Char.ofNat 47)
/-- What is asked of the library's variables. -/
def Glob (P : Program) (w : World) : Prop := ∀ (g : Nat) (x : Global), P.globals[g]? = some x → x.name = "internal" ++ slash ++ "bytealg.MaxLen" → ∃ m : Int, w.cell? ⟨g, 0, none⟩ = some (.int .i64 m)

theorem Glob.keep {P : Program} {w w' : World} (h : Glob P w) (hk : ∀ b : Nat, b < w.heap.size → w'.heap[b]? = w.heap[b]?) : Glob P w' := by
  intro g x hx hn
  obtain ⟨m, hm⟩ := h g x hx hn
  refine ⟨m, ?_⟩
  have hlt : g < w.heap.size := by
    rcases Nat.lt_or_ge g w.heap.size with hlt | hge
    · exact hlt
    · simp [World.cell?, Array.getElem?_eq_none hge] at hm
  unfold World.cell? at *
  rw [hk g hlt]
  exact hm

/-- What a call began with: blocks that belong to others ('N0'), the world, and the blocks that it was handed to write to. -/
structure Ctx where
  P : Program
  N0 : Nat → Prop
  w0 : World
  own0 : Nat → Prop
  /-- the variables of the library's that are read -/
  glob : ∀ w' : World, (∀ b : Nat, b < w0.heap.size → ¬ own0 b → w'.heap[b]? = w0.heap[b]?) → Glob P w'
  /-- the first objects are handed in: a box stays at its block -/
  fix : List (Option Nat)

def owns (β : Nat → Pl) (h : List Ob) (b : Nat) : Prop := ∃ (id : Nat) (o : Ob), h[id]? = some o ∧ o.wr = true ∧ (β id).blk = some b

def Ctx.N (C : Ctx) (β : Nat → Pl) (h : List Ob) (b : Nat) : Prop := C.N0 b ∨ owns β h b

/-- The heap, and the world. -/
structure HSim (C : Ctx) (β : Nat → Pl) (h : List Ob) (w : World) : Prop where
  obj : ∀ (id : Nat) (o : Ob), h[id]? = some o → o.Rel β w (C.N β h) (β id)
  dead : ∀ id : Nat, h.length ≤ id → (β id).live = false
  apart : ∀ (i j : Nat) (o o' : Ob) (b : Nat), h[i]? = some o → h[j]? = some o' → (β i).blk = some b → (β j).blk = some b → i = j
  fresh : ∀ (id : Nat) (o : Ob) (b : Nat), h[id]? = some o → (β id).blk = some b → ¬ C.N0 b ∧ b < w.heap.size ∧ (C.w0.heap.size ≤ b ∨ C.own0 b)
  n0 : ∀ b : Nat, C.N0 b → b < C.w0.heap.size
  frame : ∀ b : Nat, b < C.w0.heap.size → ¬ C.own0 b → w.heap[b]? = C.w0.heap[b]?
  size : C.w0.heap.size ≤ w.heap.size
  os : w.os = C.w0.os
  tape : w.tape = C.w0.tape
  output : w.output = C.w0.output
  fixed : ∀ (j : Nat) (o : Option Nat), C.fix[j]? = some o → j < h.length ∧ ∀ b, o = some b → (β j).blk = some b ∧ (β j).box = true

structure Sim (C : Ctx) (β : Nat → Pl) (σ : St) (a : Act) (w : World) : Prop where
  heap : HSim C β σ.h w
  defers : a.defers = []
  size : σ.r.length = a.tmps.size
  reg : ∀ (i : Nat) (v : V), σ.r[i]? = some v → v.Rel β w (C.N β σ.h) (a.tmps.getD i undef)

/-! ### What keeps these relations -/

/-- The places stay, but that a row may get a new version. -/
def Moves (β β' : Nat → Pl) : Prop := ∀ id : Nat, (β id).live = true → β' id = β id ∨ ((β id).box = false ∧ (β' id).live = true ∧ (β' id).box = false ∧ (β id).ver < (β' id).ver)

theorem Moves.refl (β : Nat → Pl) : Moves β β := fun _ _ => .inl rfl
theorem Moves.trans {a b c : Nat → Pl} (h : Moves a b) (h' : Moves b c) : Moves a c := fun id hl => by
  rcases h id hl with e | ⟨h1, h2, h3, h4⟩
  · rcases h' id (e ▸ hl) with e' | ⟨g1, g2, g3, g4⟩
    · exact .inl (e'.trans e)
    · exact .inr ⟨e ▸ g1, g2, g3, e ▸ g4⟩
  · rcases h' id h2 with e' | ⟨g1, g2, g3, g4⟩
    · exact .inr ⟨h1, e' ▸ h2, e' ▸ h3, e' ▸ h4⟩
    · exact .inr ⟨h1, g2, g3, Nat.lt_trans h4 g4⟩

section mono
variable {β β' : Nat → Pl} {w w' : World} {N N' : Nat → Prop}

theorem RP.mono (hk : Keep N w w') (hN : ∀ b, b < w.heap.size → N' b → N b) {t : Ty} {x : t.den} {off : Nat} {c : Value} (h : RP w N t x off c) : RP w' N' t x off c := by
  obtain ⟨b, o, cs, hc, hb, hn, hr, hcs⟩ := h
  exact ⟨b, o, cs, hc, Nat.lt_of_lt_of_le hb hk.size, fun h => hn (hN b hb h), hr.mono hk hN, hk.cells hb hn hcs⟩

mutual
theorem L.Rel.mono (hm : Moves β β') (hk : Keep N w w') (hN : ∀ b, b < w.heap.size → N' b → N b) : ∀ {l : L} {cs : List Value}, l.Rel β w N cs → l.Rel β' w' N' cs
  | .val t x, cs, h => by simp only [L.Rel] at *; exact Ty.Rel.mono hk hN h
  | .ptr id off, cs, h => by
    simp only [L.Rel] at *
    obtain ⟨h1, h2, h3⟩ := h
    rcases hm id h1 with e | ⟨h4, _⟩
    · rw [e]; exact ⟨h1, h2, h3⟩
    · rw [h2] at h4; cases h4
  | .aptr id off es i sub, cs, h => by
    simp only [L.Rel] at *
    obtain ⟨h1, h2, h3⟩ := h
    rcases hm id h1 with e | ⟨h4, _⟩
    · rw [e]; exact ⟨h1, h2, h3⟩
    · rw [h2] at h4; cases h4
  | .nilp, cs, h => by simp only [L.Rel] at *; exact h
  | .ornil id off, cs, h => by
    simp only [L.Rel] at *
    obtain ⟨c, e, h⟩ := h
    refine ⟨c, e, ?_⟩
    rcases h with h | ⟨h1, h2, h3⟩
    · exact .inl h
    · rcases hm id h1 with e | ⟨h4, _⟩
      · rw [e]; exact .inr ⟨h1, h2, h3⟩
      · rw [h2] at h4; cases h4
  | .eptr id ver i off, cs, h => by
    simp only [L.Rel] at *
    obtain ⟨h1, h2, h3, c, h4, h5, h6⟩ := h
    rcases hm id h1 with e | ⟨h7, h8, h9, h10⟩
    · rw [e]; exact ⟨h1, h2, h3, c, h4, h5, h6⟩
    · exact ⟨h8, h9, by omega, c, h4, h5, fun hv => by omega⟩
  | .rptr t x off, cs, h => by simp only [L.Rel] at *; obtain ⟨c, hc, hr⟩ := h; exact ⟨c, hc, hr.mono hk hN⟩
  | .sl id ver off len, cs, h => by
    simp only [L.Rel] at *
    obtain ⟨h1, h2, h3, c, h4, h5, h6⟩ := h
    rcases hm id h1 with e | ⟨h7, h8, h9, h10⟩
    · rw [e]; exact ⟨h1, h2, h3, c, h4, h5, h6⟩
    · exact ⟨h8, h9, by omega, c, h4, h5, fun hv => by omega⟩
  | .own id ver, cs, h => by
    simp only [L.Rel] at *
    obtain ⟨h1, h2, h3, c, h4, h5, h6⟩ := h
    rcases hm id h1 with e | ⟨h7, h8, h9, h10⟩
    · rw [e]; exact ⟨h1, h2, h3, c, h4, h5, h6⟩
    · exact ⟨h8, h9, by omega, c, h4, h5, fun hv => by omega⟩
  | .nils, cs, h => by simp only [L.Rel] at *; exact h
  | .clo f caps, cs, h => by
    simp only [L.Rel] at *
    obtain ⟨us, hc, hr⟩ := h
    exact ⟨us, hc, L.Rels1.mono hm hk hN hr⟩
  | .bad n, cs, h => by simp only [L.Rel] at *; exact h
theorem L.Rels1.mono (hm : Moves β β') (hk : Keep N w w') (hN : ∀ b, b < w.heap.size → N' b → N b) : ∀ {ls : List L} {us : List Value}, L.Rels1 β w N ls us → L.Rels1 β' w' N' ls us
  | [], us, h => by simp only [L.Rels1] at *; exact h
  | l :: ls, us, h => by
    simp only [L.Rels1] at *
    obtain ⟨u, r, e, h1, h2⟩ := h
    exact ⟨u, r, e, L.Rel.mono hm hk hN h1, L.Rels1.mono hm hk hN h2⟩
end

theorem LsRel.mono (hm : Moves β β') (hk : Keep N w w') (hN : ∀ b, b < w.heap.size → N' b → N b) : ∀ {ls : List L} {cs : List Value}, LsRel β w N ls cs → LsRel β' w' N' ls cs
  | [], _, h => h
  | _ :: _, _, ⟨c1, c2, e, h1, h2⟩ => ⟨c1, c2, e, h1.mono hm hk hN, LsRel.mono hm hk hN h2⟩

theorem V1Rel.mono (hm : Moves β β') (hk : Keep N w w') (hN : ∀ b, b < w.heap.size → N' b → N b) : ∀ {s : Sum L (List L)} {v : Value}, V1Rel β w N s v → V1Rel β' w' N' s v
  | .inl _, _, h => L.Rel.mono hm hk hN h
  | .inr _, _, ⟨cs, e, h⟩ => ⟨cs, e, h.mono hm hk hN⟩

theorem V.Rel.mono (hm : Moves β β') (hk : Keep N w w') (hN : ∀ b, b < w.heap.size → N' b → N b) : ∀ {x : V} {v : Value}, x.Rel β w N v → x.Rel β' w' N' v
  | .one _, _, h => L.Rel.mono hm hk hN h
  | .agg _, _, ⟨cs, e, h⟩ => ⟨cs, e, h.mono hm hk hN⟩
  | .tup _, _, ⟨us, e, h⟩ => ⟨us, e, h.mono fun _ _ => V1Rel.mono hm hk hN⟩
  | .poison, _, _ => trivial
end mono

theorem L.Rel.length {β : Nat → Pl} {w : World} {N : Nat → Prop} : ∀ {l : L} {cs : List Value}, l.Rel β w N cs → cs.length = l.size
  | .val t x, _, h => by simp only [L.Rel] at h; exact h.length
  | .ptr .., _, h => by simp only [L.Rel] at h; obtain ⟨_, _, b, _, rfl⟩ := h; rfl
  | .aptr .., _, h => by simp only [L.Rel] at h; obtain ⟨_, _, b, _, rfl⟩ := h; rfl
  | .nilp, _, h => by simp only [L.Rel] at h; subst h; rfl
  | .ornil .., _, h => by simp only [L.Rel] at h; obtain ⟨c, rfl, _⟩ := h; rfl
  | .eptr .., _, h => by simp only [L.Rel] at h; obtain ⟨_, _, _, c, rfl, _⟩ := h; rfl
  | .rptr .., _, h => by simp only [L.Rel] at h; obtain ⟨c, rfl, _⟩ := h; rfl
  | .sl .., _, h => by simp only [L.Rel] at h; obtain ⟨_, _, _, c, rfl, _⟩ := h; rfl
  | .own .., _, h => by simp only [L.Rel] at h; obtain ⟨_, _, _, c, rfl, _⟩ := h; rfl
  | .nils, _, h => by simp only [L.Rel] at h; subst h; rfl
  | .clo .., _, h => by simp only [L.Rel] at h; obtain ⟨us, rfl, _⟩ := h; rfl
  | .bad n, _, h => by simp only [L.Rel] at h; exact h.1

theorem L.Rel.one {β : Nat → Pl} {w : World} {N : Nat → Prop} : ∀ {l : L} {cs : List Value}, l.Rel β w N cs → ∀ c ∈ cs, c.oneCell' = true
  | .val t x, _, h => by simp only [L.Rel] at h; exact h.one
  | .ptr .., _, h => by simp only [L.Rel] at h; obtain ⟨_, _, b, _, rfl⟩ := h; simp [Value.oneCell']
  | .aptr .., _, h => by simp only [L.Rel] at h; obtain ⟨_, _, b, _, rfl⟩ := h; simp [Value.oneCell']
  | .nilp, _, h => by simp only [L.Rel] at h; subst h; simp [Value.oneCell']
  | .ornil .., _, h => by
    simp only [L.Rel] at h
    obtain ⟨c, rfl, h⟩ := h
    rcases h with rfl | ⟨_, _, b, _, rfl⟩ <;> simp [Value.oneCell']
  | .eptr .., _, h => by simp only [L.Rel] at h; obtain ⟨_, _, _, c, rfl, h, _⟩ := h; simpa using h
  | .rptr .., _, h => by simp only [L.Rel] at h; obtain ⟨c, rfl, b, o, cs, rfl, _⟩ := h; simp [Value.oneCell']
  | .sl .., _, h => by simp only [L.Rel] at h; obtain ⟨_, _, _, c, rfl, h, _⟩ := h; simpa using h
  | .own .., _, h => by simp only [L.Rel] at h; obtain ⟨_, _, _, c, rfl, h, _⟩ := h; simpa using h
  | .nils, _, h => by simp only [L.Rel] at h; subst h; simp [Value.oneCell']
  | .clo .., _, h => by simp only [L.Rel] at h; obtain ⟨us, rfl, _⟩ := h; simp [Value.oneCell']
  | .bad n, _, h => by simp only [L.Rel] at h; exact h.2

theorem LsRel.one {β : Nat → Pl} {w : World} {N : Nat → Prop} : ∀ {ls : List L} {cs : List Value}, LsRel β w N ls cs → ∀ c ∈ cs, c.oneCell' = true
  | [], _, h => by simp only [LsRel] at h; subst h; simp
  | l :: ls, _, ⟨c1, c2, e, h1, h2⟩ => by
    subst e
    intro c hc
    rcases List.mem_append.1 hc with hc | hc
    · exact h1.one c hc
    · exact LsRel.one h2 c hc

theorem LsRel.append {β : Nat → Pl} {w : World} {N : Nat → Prop} : ∀ {ls : List L} {cs : List Value} {ls' : List L} {cs' : List Value}, LsRel β w N ls cs → LsRel β w N ls' cs' → LsRel β w N (ls ++ ls') (cs ++ cs')
  | [], _, _, _, h, h' => by simp only [LsRel] at h; subst h; exact h'
  | l :: ls, _, _, _, ⟨c1, c2, e, h1, h2⟩, h' => ⟨c1, c2 ++ _, by rw [e, List.append_assoc], h1, LsRel.append h2 h'⟩

theorem LsRel.split {β : Nat → Pl} {w : World} {N : Nat → Prop} : ∀ {ls ls' : List L} {cs : List Value}, LsRel β w N (ls ++ ls') cs → ∃ c1 c2, cs = c1 ++ c2 ∧ LsRel β w N ls c1 ∧ LsRel β w N ls' c2
  | [], _, cs, h => ⟨[], cs, rfl, rfl, h⟩
  | l :: ls, _, _, ⟨c1, c2, e, h1, h2⟩ =>
    let ⟨d1, d2, e', h3, h4⟩ := LsRel.split h2
    ⟨c1 ++ d1, d2, by rw [e, e', List.append_assoc], ⟨c1, d1, rfl, h1, h3⟩, h4⟩

def sizes (ls : List L) : Nat := ls.foldr (fun l n => l.size + n) 0

theorem LsRel.length {β : Nat → Pl} {w : World} {N : Nat → Prop} : ∀ {ls : List L} {cs : List Value}, LsRel β w N ls cs → cs.length = sizes ls
  | [], _, h => by simp only [LsRel] at h; subst h; rfl
  | l :: ls, _, ⟨c1, c2, e, h1, h2⟩ => by subst e; simp [sizes, h1.length, LsRel.length h2]

/-- A row's data, taken apart into their parts. -/
def explode : (t : Ty) → t.den → List L
  | .unit, _ => []
  | .pair a b, x => explode a x.1 ++ explode b x.2
  | .bool, x => [.val .bool x]
  | .int k, x => [.val (.int k) x]
  | .str, x => [.val .str x]
  | .err, x => [.val .err x]
  | .opq, x => [.val .opq x]
  | .arr n a, x => [.val (.arr n a) x]
  | .slice a, x => [.val (.slice a) x]

theorem explode_rel {β : Nat → Pl} {w : World} {N : Nat → Prop} : ∀ {t : Ty} {x : t.den} {cs : List Value}, t.Rel w N x cs → LsRel β w N (explode t x) cs
  | .unit, _, _, h => h
  | .pair a b, _, _, ⟨c1, c2, e, h1, h2⟩ => by subst e; exact (explode_rel (t := a) h1).append (explode_rel (t := b) h2)
  | .bool, _, _, h => ⟨_, [], (List.append_nil _).symm, by simpa only [L.Rel] using h, rfl⟩
  | .int _, _, _, h => ⟨_, [], (List.append_nil _).symm, by simpa only [L.Rel] using h, rfl⟩
  | .str, _, _, h => ⟨_, [], (List.append_nil _).symm, by simpa only [L.Rel] using h, rfl⟩
  | .err, _, _, h => ⟨_, [], (List.append_nil _).symm, by simpa only [L.Rel] using h, rfl⟩
  | .opq, _, _, h => ⟨_, [], (List.append_nil _).symm, by simpa only [L.Rel] using h, rfl⟩
  | .arr _ _, _, _, h => ⟨_, [], (List.append_nil _).symm, by simpa only [L.Rel] using h, rfl⟩
  | .slice _, _, _, h => ⟨_, [], (List.append_nil _).symm, by simpa only [L.Rel] using h, rfl⟩

/-- One part, as data of a type. -/
def L.asT (t : Ty) : L → Option t.den
  | .val t' x => if h : t' = t then some (h ▸ x) else none
  | .nils => match t with
    | .slice _ => some []
    | _ => none
  | .clo f [] => match t with
    | .opq => some (.func (.func f) #[] #[])
    | _ => none
  | _ => none

theorem L.asT_rel {β : Nat → Pl} {w : World} {N : Nat → Prop} {t : Ty} {l : L} {x : t.den} {cs : List Value} (h : l.asT t = some x) (hr : l.Rel β w N cs) : t.Rel w N x cs := by
  cases l with
  | val t' y =>
    simp only [L.asT] at h
    split at h
    · rename_i e
      subst e
      simp only [Option.some.injEq] at h
      subst h
      simpa only [L.Rel] using hr
    · cases h
  | nils =>
    simp only [L.Rel] at hr
    subst hr
    cases t with
    | slice a =>
      simp only [L.asT, Option.some.injEq] at h
      exact ⟨_, rfl, .inl ⟨rfl, h.symm⟩⟩
    | _ => simp [L.asT] at h
  | clo f caps =>
    cases caps with
    | cons _ _ => simp [L.asT] at h
    | nil =>
      simp only [L.Rel] at hr
      obtain ⟨us, rfl, hu⟩ := hr
      simp only [L.Rels1] at hu
      subst hu
      cases t with
      | opq =>
        simp only [L.asT, Option.some.injEq] at h
        subst h
        exact ⟨rfl, rfl⟩
      | _ => simp [L.asT] at h
  | _ => simp [L.asT] at h

/-- Parts, put together. -/
def implode : (t : Ty) → List L → Option (t.den × List L)
  | .unit, ls => some ((), ls)
  | .pair a b, ls =>
    match implode a ls with
    | some (x, ls) =>
      match implode b ls with
      | some (y, ls) => some ((x, y), ls)
      | none => none
    | none => none
  | .bool, l :: ls => (l.asT .bool).map (·, ls)
  | .int k, l :: ls => (l.asT (.int k)).map (·, ls)
  | .str, l :: ls => (l.asT .str).map (·, ls)
  | .err, l :: ls => (l.asT .err).map (·, ls)
  | .opq, l :: ls => (l.asT .opq).map (·, ls)
  | .arr n a, l :: ls => (l.asT (.arr n a)).map (·, ls)
  | .slice a, l :: ls => (l.asT (.slice a)).map (·, ls)
  | _, [] => none

theorem implode_leaf {β : Nat → Pl} {w : World} {N : Nat → Prop} {t : Ty} {l : L} {ls ls' : List L} {x : t.den} {cs : List Value}
    (h : (l.asT t).map (·, ls) = some (x, ls')) (hr : LsRel β w N (l :: ls) cs) : ∃ c1 c2, cs = c1 ++ c2 ∧ t.Rel w N x c1 ∧ LsRel β w N ls' c2 := by
  obtain ⟨c1, c2, e, h1, h2⟩ := hr
  cases ha : l.asT t with
  | none => rw [ha] at h; cases h
  | some y =>
    rw [ha] at h
    simp only [Option.map_some, Option.some.injEq, Prod.mk.injEq] at h
    obtain ⟨rfl, rfl⟩ := h
    exact ⟨c1, c2, e, L.asT_rel ha h1, h2⟩

theorem implode_rel {β : Nat → Pl} {w : World} {N : Nat → Prop} : ∀ {t : Ty} {ls ls' : List L} {x : t.den} {cs : List Value}, implode t ls = some (x, ls') → LsRel β w N ls cs →
    ∃ c1 c2, cs = c1 ++ c2 ∧ t.Rel w N x c1 ∧ LsRel β w N ls' c2
  | .unit, _, _, _, cs, h, hr => by
    simp only [implode, Option.some.injEq, Prod.mk.injEq] at h
    obtain ⟨_, rfl⟩ := h
    exact ⟨[], cs, rfl, rfl, hr⟩
  | .pair a b, ls, ls', x, cs, h, hr => by
    simp only [implode] at h
    split at h
    · rename_i y l1 h1
      split at h
      · rename_i z l2 h2
        simp only [Option.some.injEq, Prod.mk.injEq] at h
        obtain ⟨rfl, rfl⟩ := h
        obtain ⟨c1, c2, e1, r1, s1⟩ := implode_rel (t := a) h1 hr
        obtain ⟨d1, d2, e2, r2, s2⟩ := implode_rel (t := b) h2 s1
        exact ⟨c1 ++ d1, d2, by rw [e1, e2, List.append_assoc], ⟨c1, d1, rfl, r1, r2⟩, s2⟩
      · cases h
    · cases h
  | .bool, l :: ls, _, _, _, h, hr => by simp only [implode] at h; exact implode_leaf h hr
  | .int k, l :: ls, _, _, _, h, hr => by simp only [implode] at h; exact implode_leaf h hr
  | .str, l :: ls, _, _, _, h, hr => by simp only [implode] at h; exact implode_leaf h hr
  | .err, l :: ls, _, _, _, h, hr => by simp only [implode] at h; exact implode_leaf h hr
  | .opq, l :: ls, _, _, _, h, hr => by simp only [implode] at h; exact implode_leaf h hr
  | .arr n a, l :: ls, _, _, _, h, hr => by simp only [implode] at h; exact implode_leaf h hr
  | .slice a, l :: ls, _, _, _, h, hr => by simp only [implode] at h; exact implode_leaf h hr
  | .bool, [], _, _, _, h, _ => by simp [implode] at h
  | .int k, [], _, _, _, h, _ => by simp [implode] at h
  | .str, [], _, _, _, h, _ => by simp [implode] at h
  | .err, [], _, _, _, h, _ => by simp [implode] at h
  | .opq, [], _, _, _, h, _ => by simp [implode] at h
  | .arr n a, [], _, _, _, h, _ => by simp [implode] at h
  | .slice a, [], _, _, _, h, _ => by simp [implode] at h

end Go.Dec
