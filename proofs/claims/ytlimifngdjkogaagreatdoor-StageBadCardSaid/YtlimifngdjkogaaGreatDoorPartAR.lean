/- Part of a proof over this seat: a library of my own, and what it says of this seat. No statement is proved here. -/
import Derived.Calls
import Derived.Laws.AppendOwn
namespace Go.Ce
inductive AV where
 | bo (x : Bool) | it (k : IntKind) (n : Int) | st (l : List Nat) | fl (k : FloatKind) (x : Nat) | cx (k : FloatKind) (x y : Nat)
 | np | pt (id off : Nat) | ns | sl (id off len cap sz : Nat) (ex : Bool) | se (z : Bool) | nm | mp (id : Nat)
 | md (k : IntKind) (m r : Nat)
 | nf | fn (f : Fn) (fs cs : List AV) | ni | ic (t : TypeId) (v : AV) | ag (l : List AV) | tu (l : List AV)
abbrev Bt := Nat -> Option (Nat × Nat × Nat)
def wX (ex : Bool) (cap c : Nat) : Prop := match ex with | true => c = cap | false => cap <= c
mutual
def AV.Rel (β : Bt) : AV -> Value -> Prop
 | .bo x, v => v = .bool x
 | .it k n, v => v = .int k n
 | .st l, v => ∃ ba : ByteArray, v = .string ba ∧ ba.data.toList.map UInt8.toNat = l
 | .fl k x, v => v = .float k x
 | .cx k x y, v => v = .complex k x y
 | .np, v => v = .pointer none
 | .pt id off, v => ∃ b o n, β id = some (b, o, n) ∧ v = .pointer (some ⟨b, o + off, none⟩)
 | .ns, v => v = .slice none 0 0
 | .sl id off len cap sz ex, v => ∃ b o n c, β id = some (b, o, n) ∧ v = .slice (some ⟨b, o + off, none⟩) len c ∧ wX ex cap c ∧ len <= c ∧ c <= maxLen ∧ o + off + c * sz <= n
 | .se z, v => ∃ a c, v = .slice (some a) 0 c ∧ c <= maxLen ∧ (z = true -> c = 0)
 | .nm, v => v = .map none
 | .mp id, v => ∃ b n, β id = some (b, 0, n) ∧ v = .map (some b)
 | .md k m r, v => ∃ n : Nat, v = .int k (.ofNat n) ∧ n < 65536 ∧ n % m = r
 | .nf, v => v = .nilFunc
 | .fn f fs cs, v => ∃ x y : List Value, v = .func f x.toArray y.toArray ∧ AV.aF β fs x ∧ AV.aF β cs y
 | .ni, v => v = .nilIface
 | .ic t a, v => ∃ x, v = .iface t x ∧ a.Rel β x
 | .ag l, v => ∃ x : List Value, v = .agg x.toArray ∧ AV.aF β l x
 | .tu l, v => ∃ x : List Value, v = .tuple x.toArray ∧ AV.aF β l x
def AV.aF (β : Bt) : List AV -> List Value -> Prop
 | [], vs => vs = []
 | a :: r, vs => ∃ x xs, vs = x :: xs ∧ a.Rel β x ∧ AV.aF β r xs
end
def Le (β β' : Bt) : Prop := ∀ id p, β id = some p -> β' id = some p
theorem Le.refl (β : Bt) : Le β β := fun _ _ h => h
theorem Le.trans {a b c : Bt} (h : Le a b) (h' : Le b c) : Le a c := fun _ _ x => h' _ _ (h _ _ x)
mutual
theorem AV.Rel.mono {β β' : Bt} (hl : Le β β') : ∀ {a : AV} {v : Value}, a.Rel β v -> a.Rel β' v
 | .bo _, _, h => h
 | .it .., _, h => h
 | .st _, _, h => h
 | .fl .., _, h => h
 | .cx .., _, h => h
 | .np, _, h => h
 | .pt .., _, ⟨b, o, n, h, e⟩ => ⟨b, o, n, hl _ _ h, e⟩
 | .ns, _, h => h
 | .sl .., _, ⟨b, o, n, c, h, e⟩ => ⟨b, o, n, c, hl _ _ h, e⟩
 | .se _, _, h => h
 | .nm, _, h => h
 | .mp _, _, ⟨b, n, h, e⟩ => ⟨b, n, hl _ _ h, e⟩
 | .md .., _, h => h
 | .nf, _, h => h
 | .fn .., _, ⟨x, y, e, h1, h2⟩ => ⟨x, y, e, AV.aF.mono hl h1, AV.aF.mono hl h2⟩
 | .ni, _, h => h
 | .ic .., _, ⟨x, e, h⟩ => ⟨x, e, AV.Rel.mono hl h⟩
 | .ag _, _, ⟨x, e, h⟩ => ⟨x, e, AV.aF.mono hl h⟩
 | .tu _, _, ⟨x, e, h⟩ => ⟨x, e, AV.aF.mono hl h⟩
theorem AV.aF.mono {β β' : Bt} (hl : Le β β') : ∀ {l : List AV} {vs : List Value}, AV.aF β l vs -> AV.aF β' l vs
 | [], _, h => h
 | _ :: _, _, ⟨x, xs, e, h, h'⟩ => ⟨x, xs, e, AV.Rel.mono hl h, AV.aF.mono hl h'⟩
end
section zJj
variable {β : Bt}
theorem AV.aF.length : ∀ {l : List AV} {vs : List Value}, AV.aF β l vs -> l.length = vs.length
 | [], _, h => by simp only [AV.aF] at h; subst h; rfl
 | _ :: _, _, ⟨x, xs, e, _, h'⟩ => by subst e; simp [AV.aF.length h']
theorem AV.aF.get : ∀ {l : List AV} {vs : List Value}, AV.aF β l vs -> ∀ {i : Nat} {a : AV}, l[i]? = some a -> ∃ x, vs[i]? = some x ∧ a.Rel β x
 | [], _, _, _, _, hi => by simp at hi
 | _ :: _, _, ⟨x, xs, e, h, h'⟩, 0, a, hi => by subst e; simp only [List.getElem?_cons_zero, Option.some.injEq] at hi; subst hi; exact ⟨x, rfl, h⟩
 | _ :: _, _, ⟨x, xs, e, h, h'⟩, i + 1, a, hi => by subst e; simp at hi; simpa using AV.aF.get h' hi
theorem AV.aF.Qb : ∀ {l : List AV} {vs : List Value}, l.length = vs.length -> (∀ (i : Nat) (a : AV), l[i]? = some a -> ∃ x, vs[i]? = some x ∧ a.Rel β x) -> AV.aF β l vs
 | [], [], _, _ => rfl
 | [], _ :: _, h, _ => by simp at h
 | _ :: _, [], h, _ => by simp at h
 | a :: l, x :: xs, hl, h => by
  obtain ⟨y, hy, hr⟩ := h 0 a rfl
  simp at hy; subst hy
  exact ⟨x, xs, rfl, hr, AV.aF.Qb (by simpa using hl) fun i b hi => by simpa using h (i + 1) b (by simpa using hi)⟩
theorem AV.aF.append {l m : List AV} {vs us : List Value} (h : AV.aF β l vs) (h' : AV.aF β m us) : AV.aF β (l ++ m) (vs ++ us) := by
 induction l generalizing vs with
 | nil => simp only [AV.aF] at h; subst h; exact h'
 | cons a l ih => obtain ⟨x, xs, e, h1, h2⟩ := h; subst e; exact ⟨x, xs ++ us, rfl, h1, ih h2⟩
theorem AV.aF.take {l : List AV} {vs : List Value} (h : AV.aF β l vs) (n : Nat) : AV.aF β (l.take n) (vs.take n) := by
 induction l generalizing vs n with
 | nil => simp only [AV.aF] at h; subst h; simp [AV.aF]
 | cons a l ih => obtain ⟨x, xs, e, h1, h2⟩ := h; subst e; cases n with
  | zero => simp [AV.aF]
  | succ n => exact ⟨x, xs.take n, rfl, h1, ih h2 n⟩
theorem AV.aF.drop {l : List AV} {vs : List Value} (h : AV.aF β l vs) (n : Nat) : AV.aF β (l.drop n) (vs.drop n) := by
 induction l generalizing vs n with
 | nil => simp only [AV.aF] at h; subst h; simp [AV.aF]
 | cons a l ih => obtain ⟨x, xs, e, h1, h2⟩ := h; subst e; cases n with
  | zero => exact ⟨x, xs, rfl, h1, h2⟩
  | succ n => simpa using ih h2 n
theorem AV.aF.replicate {a : AV} {x : Value} (h : a.Rel β x) : ∀ n, AV.aF β (List.replicate n a) (List.replicate n x)
 | 0 => rfl
 | n + 1 => ⟨x, _, rfl, h, AV.aF.replicate h n⟩
theorem AV.aF.nil : AV.aF β [] [] := rfl
theorem AV.aF.single {a : AV} {x : Value} (h : a.Rel β x) : AV.aF β [a] [x] := ⟨x, [], rfl, h, rfl⟩
end zJj
inductive T (α : Type) where
 | nil
 | node (l : T α) (v : Option α) (r : T α)
def cnd {α : Type} (b : Bool) (x y : α) : α := match b with | true => x | false => y
section
variable {α : Type}
def T.get : T α -> Nat -> Option α
 | .nil, _ => none
 | .node l v r, n => cnd (Nat.beq n 0) v (cnd (Nat.beq (n % 2) 1) (l.get (n / 2)) (r.get (n / 2 - 1)))
def T.lf : T α -> T α | .nil => .nil | .node l _ _ => l
def T.rt : T α -> T α | .nil => .nil | .node _ _ r => r
def T.vl : T α -> Option α | .nil => none | .node _ v _ => v
def T.set : Nat -> T α -> Nat -> Option α -> T α
 | 0, t, _, _ => t
 | k + 1, t, n, x => cnd (Nat.beq n 0) (.node t.lf x t.rt)
  (cnd (Nat.beq (n % 2) 1) (.node (T.set k t.lf (n / 2) x) t.vl t.rt) (.node t.lf t.vl (T.set k t.rt (n / 2 - 1) x)))
theorem T.bL (t : T α) (n : Nat) : t.get n = if n = 0 then t.vl else if n % 2 = 1 then t.lf.get (n / 2) else t.rt.get (n / 2 - 1) := by
 cases t with
 | nil => simp [T.get, T.vl, T.lf, T.rt]
 | node l v r =>
  simp only [T.get, T.vl, T.lf, T.rt, cnd]
  by_cases h : n = 0
  ·subst h; simp
  ·have hb : Nat.beq n 0 = false := by cases hb : Nat.beq n 0 with
    | true => exact absurd (Nat.eq_of_beq_eq_true hb) h
    | false => rfl
   rw [hb, if_neg h]
   by_cases h1 : n % 2 = 1
   ·rw [if_pos h1, h1]
   ·have h0 : n % 2 = 0 := by omega
    rw [if_neg h1, h0]
theorem T.qW : ∀ (k : Nat) (t : T α) (n : Nat) (x : Option α) (m : Nat), (m ≠ n -> (T.set k t n x).get m = t.get m) ∧ (n + 1 < 2 ^ k -> (T.set k t n x).get n = x)
 | 0, t, n, x, m => ⟨fun _ => rfl, fun h => by simp at h⟩
 | k + 1, t, n, x, m => by
  unfold T.set
  by_cases h : n = 0
  ·subst h
   have hb : Nat.beq 0 0 = true := rfl
   rw [hb]
   simp only [cnd]
   refine ⟨fun hm => ?_, fun _ => by rw [T.bL]; simp [T.vl]⟩
   rw [T.bL, T.bL t m]
   simp [hm, T.lf, T.rt]
  ·have hb : Nat.beq n 0 = false := by cases hb : Nat.beq n 0 with
    | true => exact absurd (Nat.eq_of_beq_eq_true hb) h
    | false => rfl
   rw [hb]
   by_cases h1 : n % 2 = 1
   ·have hb1 : Nat.beq (n % 2) 1 = true := by rw [h1]; rfl
    rw [hb1]
    simp only [cnd]
    refine ⟨fun hm => ?_, fun hk => ?_⟩
    ·rw [T.bL, T.bL t m]
     simp only [T.vl, T.lf, T.rt]
     split
     ·rfl
     ·split
      ·exact (T.qW k _ _ x _).1 (by omega)
      ·rfl
    ·rw [T.bL]
     simp only [h, h1, if_false, if_true, T.lf]
     refine (T.qW k _ _ x 0).2 ?_
     rw [Nat.pow_succ] at hk; omega
   ·have h0 : n % 2 = 0 := by omega
    have hb1 : Nat.beq (n % 2) 1 = false := by rw [h0]; rfl
    rw [hb1]
    simp only [cnd]
    refine ⟨fun hm => ?_, fun hk => ?_⟩
    ·rw [T.bL, T.bL t m]
     simp only [T.vl, T.lf, T.rt]
     split
     ·rfl
     ·split
      ·rfl
      ·exact (T.qW k _ _ x _).1 (by omega)
    ·rw [T.bL]
     simp only [h, h1, if_false, T.rt]
     refine (T.qW k _ _ x 0).2 ?_
     rw [Nat.pow_succ] at hk; omega
def big : Nat := 16777214
def T.put (t : T α) (n : Nat) (x : Option α) : T α := T.set 24 t n x
theorem T.bE {t : T α} {n : Nat} (x : Option α) (h : n < big) : (t.put n x).get n = x :=
 (T.qW 24 t n x 0).2 (by unfold big at h; omega)
theorem T.aI {t : T α} {n m : Nat} (x : Option α) (h : m ≠ n) : (t.put n x).get m = t.get m := (T.qW 24 t n x m).1 h
def T.strike (f : Nat -> α -> Bool) : T α -> Nat -> Nat -> T α
 | .nil, _, _ => .nil
 | .node l v r, a, d => .node (l.strike f (a + d) (2 * d)) (match v with | some x => cnd (f a x) (some x) none | none => none) (r.strike f (a + 2 * d) (2 * d))
theorem T.qK (f : Nat -> α -> Bool) : ∀ (t : T α) (a d n : Nat), (t.strike f a d).get n = match t.get n with | some x => if f (a + d * n) x then some x else none | none => none
 | .nil, _, _, _ => rfl
 | .node l v r, a, d, n => by
  rw [T.bL, T.bL (.node l v r) n]
  simp only [T.strike, T.vl, T.lf, T.rt]
  by_cases h : n = 0
  ·subst h
   simp only [if_true, Nat.mul_zero, Nat.add_zero]
   cases v with
   | none => rfl
   | some x => simp only [cnd]; cases f a x <;> rfl
  ·rw [if_neg h, if_neg h]
   by_cases h1 : n % 2 = 1
   ·rw [if_pos h1, if_pos h1, T.qK f l]
    have : a + d + 2 * d * (n / 2) = a + d * n := by
     have : n = 2 * (n / 2) + 1 := by omega
     generalize n / 2 = q at this; subst this
     rw [Nat.mul_add, Nat.mul_one, <- Nat.mul_assoc, Nat.mul_comm d 2]; omega
    rw [this]
   ·rw [if_neg h1, if_neg h1, T.qK f r]
    have : a + 2 * d + 2 * d * (n / 2 - 1) = a + d * n := by
     have h2 : n = 2 * (n / 2 - 1) + 2 := by omega
     generalize n / 2 - 1 = q at h2; subst h2
     rw [Nat.mul_add, <- Nat.mul_assoc, Nat.mul_comm d 2]; omega
    rw [this]
def bB (c : Nat) : Option TypeId := match c / big with | 0 => none | n + 1 => some n
def qL (c : Nat) (e : TypeId) : Prop := match bB c with | none => True | some t => e = t
inductive Blk where
 | cells (cs : List AV) (cls : Nat) (top shr : Bool)
 | map (es : List (AV × AV × Nat)) (clk : Nat)
 | mit (m since : Nat) (seen : List Nat) (stepped : Nat)
 | sit (l : List Nat) (pos : Nat)
 | dict (k : IntKind) (es : List (Nat × AV)) (nG : List Nat)
 | typed (t : TypeId) (cs : List AV)
def lkN (n : Nat) : List (Nat × AV) -> Option AV
 | [] => none
 | p :: r => cnd (Nat.beq n p.1) (some p.2) (lkN n r)
def aK (β : Bt) : List (AV × AV × Nat) -> List MapEntry -> Prop
 | [], ms => ms = []
 | e :: r, ms => ∃ x xs, ms = x :: xs ∧ e.1.Rel β x.key ∧ e.2.1.Rel β x.val ∧ e.2.2 = x.born ∧ aK β r xs
theorem aK.mono {β β' : Bt} (hl : Le β β') : ∀ {es : List (AV × AV × Nat)} {ms : List MapEntry}, aK β es ms -> aK β' es ms
 | [], _, h => h
 | _ :: _, _, ⟨x, xs, e, h1, h2, h3, h4⟩ => ⟨x, xs, e, h1.mono hl, h2.mono hl, h3, aK.mono hl h4⟩
def Blk.Rel (β : Bt) (h : Array Obj) (b o n : Nat) : Blk -> Prop
 | .cells cs cls top _ => ∃ c e fz, h[b]? = some (.cells c e fz) ∧ (c.size = n ∧ qL cls e) ∧ (top = true -> ∀ i, i < c.size -> ¬ (fz.1 <= i ∧ i < fz.2)) ∧ ∀ (i : Nat) (v : AV), cs[i]? = some v -> ∃ x, c[o + i]? = some x ∧ v.Rel β x
 | .map es clk => o = 0 ∧ ∃ ms : List MapEntry, h[b]? = some (.map ms.toArray clk) ∧ aK β es ms
 | .mit m since seen stepped => o = 0 ∧ ∃ bm nm, β m = some (bm, 0, nm) ∧ h[b]? = some (.mapIter (some bm) since seen.reverse.toArray stepped)
 | .sit l pos => o = 0 ∧ ∃ ba : ByteArray, ba.data.toList.map UInt8.toNat = l ∧ h[b]? = some (.stringIter ba pos)
 | .dict k es nG => o = 0 ∧ ∃ (ms : List MapEntry) (clk : Nat), h[b]? = some (.map ms.toArray clk) ∧ (∀ e ∈ ms, ∃ (m : Nat) (v : AV), e.key = .int k (Int.ofNat m) ∧ lkN m es = some v ∧ v.Rel β e.val) ∧ ∀ m ∈ nG, ∃ e ∈ ms, e.key = .int k (Int.ofNat m)
 | .typed t cs => o = 0 ∧ ∃ c : Array Value, h[b]? = some (.cells c t (0, 0)) ∧ c.size = n ∧ c.size = cs.length ∧ ∀ (i : Nat) (v : AV), cs[i]? = some v -> ∃ x, c[i]? = some x ∧ v.Rel β x
theorem Blk.Rel.mono {β β' : Bt} {h h' : Array Obj} {b o n : Nat} {B : Blk} (hl : Le β β') (hb : h'[b]? = h[b]?) (hr : B.Rel β h b o n) : B.Rel β' h' b o n := by
 cases B with
 | cells cs cls top shr =>
  obtain ⟨c, e, fz, h1, hn, h2, h3⟩ := hr
  exact ⟨c, e, fz, by rw [hb, h1], hn, h2, fun i v hv => let ⟨x, hx, hr⟩ := h3 i v hv; ⟨x, hx, hr.mono hl⟩⟩
 | map es clk =>
  obtain ⟨h0, ms, h1, h2⟩ := hr
  exact ⟨h0, ms, by rw [hb, h1], h2.mono hl⟩
 | mit m since seen stepped =>
  obtain ⟨h0, bm, nm, h1, h2⟩ := hr
  exact ⟨h0, bm, nm, hl _ _ h1, by rw [hb, h2]⟩
 | sit l pos =>
  obtain ⟨h0, ba, h1, h2⟩ := hr
  exact ⟨h0, ba, h1, by rw [hb, h2]⟩
 | dict k es nG =>
  obtain ⟨h0, ms, clk, h1, h2, h3⟩ := hr
  exact ⟨h0, ms, clk, by rw [hb, h1], fun e he => let ⟨m, v, e1, e2, e3⟩ := h2 e he; ⟨m, v, e1, e2, e3.mono hl⟩, h3⟩
 | typed t cs =>
  obtain ⟨h0, c, h1, hn, hz, h3⟩ := hr
  exact ⟨h0, c, by rw [hb, h1], hn, hz, fun i v hv => let ⟨x, hx, hr⟩ := h3 i v hv; ⟨x, hx, hr.mono hl⟩⟩
structure W where
 H : T Blk
 nx : Nat
def iE : Blk -> Blk -> Prop
 | .cells _ c t s, .cells _ c' t' s' => c = c' ∧ (t = true -> s = true) ∧ (t' = true -> s' = true) ∧ ¬ (t = true ∧ t' = true)
 | _, _ => False
structure aL (lo : Nat) (β : Bt) (A : W) (w : World) : Prop where
 lo_le : lo <= A.nx
 blk : ∀ id B, A.H.get id = some B -> ∃ b o n, β id = some (b, o, n) ∧ b < w.heap.size ∧ B.Rel β w.heap b o n
 nx : ∀ id, A.nx <= id -> β id = none
 here : ∀ id b o n, β id = some (b, o, n) -> b < w.heap.size
 sep : ∀ id id' B B' b o o' n n', id ≠ id' -> A.H.get id = some B -> A.H.get id' = some B' -> β id = some (b, o, n) -> β id' = some (b, o', n') -> iE B B'
 side : ∀ id id' B' b o o' n n', id < lo -> lo <= id' -> A.H.get id' = some B' -> β id = some (b, o, n) -> β id' = some (b, o', n') -> False
def Own (lo : Nat) (β : Bt) (A : W) (b : Nat) : Prop := ∃ id B o n, lo <= id ∧ A.H.get id = some B ∧ β id = some (b, o, n)
structure Go (lo : Nat) (β : Bt) (A : W) (w : World) (β' : Bt) (A' : W) (w' : World) : Prop where
 rel : aL lo β' A' w'
 ext : Le β β'
 nx : A.nx <= A'.nx
 size : w.heap.size <= w'.heap.size
 old : ∀ b, b < w.heap.size -> ¬ Own lo β A b -> w'.heap[b]? = w.heap[b]?
 back : ∀ id B', id < A.nx -> A'.H.get id = some B' -> ∃ B, A.H.get id = some B
 keep : ∀ id, id < lo -> A'.H.get id = A.H.get id
 fresh : ∀ id b o n, A.nx <= id -> β' id = some (b, o, n) -> w.heap.size <= b ∨ Own lo β A b
 old' : ∀ id p, id < A.nx -> β' id = some p -> β id = some p
 os : w'.os = w.os
 tape : w'.tape = w.tape
 output : w'.output = w.output
theorem Go.refl {lo : Nat} {β : Bt} {A : W} {w : World} (h : aL lo β A w) : Go lo β A w β A w :=
 ⟨h, .refl β, Nat.le_refl _, Nat.le_refl _, fun _ _ _ => rfl, fun _ B _ hb => ⟨B, hb⟩, fun _ _ => rfl, fun id b o n hi hb => (by rw [h.nx id hi] at hb; cases hb), fun _ _ _ h => h, rfl, rfl, rfl⟩
theorem Go.own {lo : Nat} {β β' : Bt} {A A' : W} {w w' : World} (h : Go lo β A w β' A' w') {b : Nat} (hb : Own lo β' A' b) : w.heap.size <= b ∨ Own lo β A b := by
 obtain ⟨id, B, o, n, h1, h2, h3⟩ := hb
 rcases Nat.lt_or_ge id A.nx with hi | hi
 ·obtain ⟨B0, hB⟩ := h.back id B hi h2
  exact .inr ⟨id, B0, o, n, h1, hB, h.old' id _ hi h3⟩
 ·exact h.fresh id b o n hi h3
theorem Go.trans {lo : Nat} {β β' β'' : Bt} {A A' A'' : W} {w w' w'' : World} (h : Go lo β A w β' A' w') (h' : Go lo β' A' w' β'' A'' w'') : Go lo β A w β'' A'' w'' where
 rel := h'.rel
 ext := h.ext.trans h'.ext
 nx := Nat.le_trans h.nx h'.nx
 size := Nat.le_trans h.size h'.size
 old := fun b hb hn => (h'.old b (Nat.lt_of_lt_of_le hb h.size) fun ho => (h.own ho).elim (fun hge => by omega) hn).trans (h.old b hb hn)
 back := fun id B hi hB => by
  obtain ⟨B1, h1⟩ := h'.back id B (Nat.lt_of_lt_of_le hi h.nx) hB
  exact h.back id B1 hi h1
 keep := fun id hi => (h'.keep id hi).trans (h.keep id hi)
 fresh := fun id b o n hi hb => by
  rcases Nat.lt_or_ge id A'.nx with h1 | h1
  ·exact h.fresh id b o n hi (h'.old' id _ h1 hb)
  ·rcases h'.fresh id b o n h1 hb with h2 | h2
   ·exact .inl (Nat.le_trans h.size h2)
   ·exact h.own h2
 old' := fun id p hi hb => h.old' id p hi (h'.old' id p (Nat.lt_of_lt_of_le hi h.nx) hb)
 os := h'.os.trans h.os
 tape := h'.tape.trans h.tape
 output := h'.output.trans h.output
end
end Go.Ce
namespace Go.Ce
def upd (β : Bt) (id : Nat) (p : Nat × Nat × Nat) : Bt := fun i => if i = id then some p else β i
theorem upd_same (β : Bt) (id : Nat) (p : Nat × Nat × Nat) : upd β id p id = some p := by simp [upd]
theorem aB (β : Bt) {id i : Nat} (p : Nat × Nat × Nat) (h : i ≠ id) : upd β id p i = β i := by simp [upd, h]
theorem fV {lo : Nat} {β : Bt} {A : W} {w : World} (h : aL lo β A w) (p : Nat × Nat × Nat) : Le β (upd β A.nx p) := fun id q hq => by
 rw [aB]
 ·exact hq
 ·rintro rfl; rw [h.nx _ (Nat.le_refl _)] at hq; cases hq
section
variable {lo : Nat} {β : Bt} {A : W} {w w' : World}
theorem aL.lt (h : aL lo β A w) {id : Nat} {B : Blk} (hB : A.H.get id = some B) : id < A.nx := by
 obtain ⟨b, o, n, hb, _⟩ := h.blk id B hB
 rcases Nat.lt_or_ge id A.nx with h1 | h1
 ·exact h1
 ·rw [h.nx id h1] at hb; cases hb
theorem Go.same (h : aL lo β A w) (hh : w'.heap = w.heap) (h1 : w'.os = w.os) (h2 : w'.tape = w.tape) (h3 : w'.output = w.output) : Go lo β A w β A w' where
 rel := ⟨h.lo_le, by rw [hh]; exact h.blk, h.nx, by rw [hh]; exact h.here, h.sep, h.side⟩
 ext := .refl β
 nx := Nat.le_refl _
 size := by rw [hh]; exact Nat.le_refl _
 old := fun b _ _ => by rw [hh]
 back := fun id B _ hB => ⟨B, hB⟩
 keep := fun _ _ => rfl
 fresh := fun id b o n hi hb => by rw [h.nx id hi] at hb; cases hb
 old' := fun _ _ _ hb => hb
 os := h1
 tape := h2
 output := h3
theorem Go.new (h : aL lo β A w) (hb : A.nx < big) {B : Blk} {n : Nat} (hs : w'.heap.size = w.heap.size + 1) (ho : ∀ b, b < w.heap.size -> w'.heap[b]? = w.heap[b]?)
  (hB : B.Rel (upd β A.nx (w.heap.size, 0, n)) w'.heap w.heap.size 0 n) (h1 : w'.os = w.os) (h2 : w'.tape = w.tape) (h3 : w'.output = w.output) :
  Go lo β A w (upd β A.nx (w.heap.size, 0, n)) ⟨A.H.put A.nx (some B), A.nx + 1⟩ w' where
 rel := {
  lo_le := Nat.le_succ_of_le h.lo_le
  blk := fun id B' hB' => by
   by_cases hi : id = A.nx
   ·subst hi
    simp only [T.bE _ hb, Option.some.injEq] at hB'
    subst hB'
    exact ⟨_, _, _, upd_same _ _ _, by omega, hB⟩
   ·simp only [T.aI _ hi] at hB'
    obtain ⟨b, o, m, h4, h5, h6⟩ := h.blk id B' hB'
    exact ⟨b, o, m, by rw [aB _ _ hi]; exact h4, by omega, h6.mono (fV h _) (ho b h5)⟩
  nx := fun id hi => by
   rw [aB _ _ (by simp at hi; omega)]
   exact h.nx id (by simp at hi; omega)
  here := fun id b o m hb' => by
   by_cases hi : id = A.nx
   ·subst hi
    rw [upd_same] at hb'
    simp only [Option.some.injEq, Prod.mk.injEq] at hb'
    omega
   ·rw [aB _ _ hi] at hb'
    have := h.here _ _ _ _ hb'
    omega
  sep := fun id id' B1 B2 b o o' m m' hne h4 h5 h6 h7 => by
   by_cases hi : id = A.nx
   ·subst hi
    rw [aB _ _ (Ne.symm hne)] at h7
    have := h.here _ _ _ _ h7
    rw [upd_same] at h6
    simp only [Option.some.injEq, Prod.mk.injEq] at h6
    omega
   ·by_cases hi' : id' = A.nx
    ·subst hi'
     rw [aB _ _ hi] at h6
     have := h.here _ _ _ _ h6
     rw [upd_same] at h7
     simp only [Option.some.injEq, Prod.mk.injEq] at h7
     omega
    ·simp only [T.aI _ hi] at h4
     simp only [T.aI _ hi'] at h5
     rw [aB _ _ hi] at h6
     rw [aB _ _ hi'] at h7
     exact h.sep id id' B1 B2 b o o' m m' hne h4 h5 h6 h7
  side := fun id id' B2 b o o' m m' hl hl' h5 h6 h7 => by
   have hi : id ≠ A.nx := by have := h.lo_le; omega
   rw [aB _ _ hi] at h6
   by_cases hi' : id' = A.nx
   ·subst hi'
    have := h.here _ _ _ _ h6
    rw [upd_same] at h7
    simp only [Option.some.injEq, Prod.mk.injEq] at h7
    omega
   ·simp only [T.aI _ hi'] at h5
    rw [aB _ _ hi'] at h7
    exact h.side id id' B2 b o o' m m' hl hl' h5 h6 h7 }
 ext := fV h _
 nx := Nat.le_succ _
 size := by omega
 old := fun b hb' _ => ho b hb'
 back := fun id B' hi hB' => by
  simp only [T.aI _ (Nat.ne_of_lt hi)] at hB'
  exact ⟨B', hB'⟩
 keep := fun id hi => T.aI _ (by have := h.lo_le; omega)
 fresh := fun id b o m hi hb' => by
  by_cases hi' : id = A.nx
  ·subst hi'
   rw [upd_same] at hb'
   simp only [Option.some.injEq, Prod.mk.injEq] at hb'
   exact .inl (by omega)
  ·rw [aB _ _ hi', h.nx id hi] at hb'; cases hb'
 old' := fun id p hi hb' => by rwa [aB _ _ (Nat.ne_of_lt hi)] at hb'
 os := h1
 tape := h2
 output := h3
def Blk.Ww (c : Nat) : Blk -> Bool
 | .cells _ c' _ _ => Nat.beq c' c
 | _ => false
def gX (lo : Nat) (H : T Blk) (cls : Nat) (shr : Bool) : T Blk :=
 match shr with
 | true => H.strike (fun i B => Nat.blt i lo || !B.Ww cls) 0 1
 | false => H
theorem eO {lo : Nat} {H : T Blk} {cls : Nat} {shr : Bool} {id : Nat} {B : Blk} (h : (gX lo H cls shr).get id = some B) : H.get id = some B ∧ (shr = true -> id < lo ∨ B.Ww cls = false) := by
 unfold gX at h
 cases shr with
 | false => exact ⟨h, fun h => by cases h⟩
 | true =>
  simp only [T.qK, Nat.zero_add, Nat.one_mul] at h
  split at h
  ·rename_i x hx
   split at h
   ·rename_i hc
    simp only [Option.some.injEq] at h
    subst h
    refine ⟨hx, fun _ => ?_⟩
    rw [Bool.or_eq_true, Nat.blt_eq] at hc
    rcases hc with hc | hc
    ·exact .inl hc
    ·right; simpa using hc
   ·cases h
  ·cases h
theorem Gc {lo : Nat} {H : T Blk} {cls : Nat} {shr : Bool} {id : Nat} (h : id < lo) : (gX lo H cls shr).get id = H.get id := by
 unfold gX
 cases shr with
 | false => rfl
 | true =>
  simp only [T.qK, Nat.zero_add, Nat.one_mul]
  cases hx : H.get id with
  | none => rfl
  | some x =>
   have : Nat.blt id lo = true := by rw [Nat.blt_eq]; exact h
   simp [this]
theorem nV (h : aL lo β A w) {id : Nat} {cs : List AV} {cls : Nat} {shr : Bool} (hB : A.H.get id = some (.cells cs cls true shr)) (hl : lo <= id) {b o n : Nat} (hb : β id = some (b, o, n))
  {id' : Nat} {B' : Blk} (hne : id' ≠ id) (hB' : (gX lo A.H cls shr).get id' = some B') {b' o' n' : Nat} (hb' : β id' = some (b', o', n')) : b' ≠ b := by
 rintro rfl
 obtain ⟨h1, h2⟩ := eO hB'
 have hm := h.sep id id' _ _ _ _ _ _ _ (Ne.symm hne) hB h1 hb hb'
 cases B' with
 | cells cs' c' t' s' =>
  obtain ⟨e, e1, _, e2⟩ := hm
  subst e
  rcases h2 (e1 rfl) with h3 | h3
  ·exact h.side id' id _ _ _ _ _ _ h3 hl hB hb' hb
  ·simp [Blk.Ww] at h3
 | _ => exact hm.elim
theorem Go.turn (h : aL lo β A w) {id : Nat} {cs cs' : List AV} {cls : Nat} {shr : Bool} (hB : A.H.get id = some (.cells cs cls true shr)) (hl : lo <= id) (hbig : id < big) {b o n : Nat} (hb : β id = some (b, o, n))
  (hs : w'.heap.size = w.heap.size) (ho : ∀ k, k ≠ b -> w'.heap[k]? = w.heap[k]?) (hB' : (Blk.cells cs' cls true false).Rel β w'.heap b o n)
  (h1 : w'.os = w.os) (h2 : w'.tape = w.tape) (h3 : w'.output = w.output) :
  Go lo β A w β ⟨(gX lo A.H cls shr).put id (some (.cells cs' cls true false)), A.nx⟩ w' := by
 have key : ∀ i B2, i ≠ id -> ((gX lo A.H cls shr).put id (some (.cells cs' cls true false))).get i = some B2 -> (gX lo A.H cls shr).get i = some B2 := fun i B2 hi h4 => by rwa [T.aI _ hi] at h4
 refine { rel := ?_, ext := .refl β, nx := Nat.le_refl _, size := by omega, old := ?_, back := ?_, keep := ?_, fresh := fun i b o n hi hb => (by rw [h.nx i hi] at hb; cases hb), old' := fun _ _ _ hb => hb, os := h1, tape := h2, output := h3 }
 ·refine { lo_le := h.lo_le, blk := ?_, nx := h.nx, here := by rw [hs]; exact h.here, sep := ?_, side := ?_ }
  ·intro i B2 h4
   by_cases hi : i = id
   ·subst hi
    simp only [T.bE _ hbig, Option.some.injEq] at h4
    subst h4
    exact ⟨b, o, n, hb, by rw [hs]; exact h.here _ _ _ _ hb, hB'⟩
   ·have h5 := key i B2 hi h4
    obtain ⟨b2, o2, n2, h6, h7, h8⟩ := h.blk i B2 (eO h5).1
    exact ⟨b2, o2, n2, h6, by rw [hs]; exact h7, h8.mono (.refl β) (ho b2 (nV h hB hl hb hi h5 h6))⟩
  ·intro i j B1 B2 b1 o1 o2 n1 n2 hne h4 h5 h6 h7
   by_cases hi : i = id
   ·subst hi
    rw [hb] at h6
    simp only [Option.some.injEq, Prod.mk.injEq] at h6
    obtain ⟨rfl, _⟩ := h6
    exact absurd rfl (nV h hB hl hb (Ne.symm hne) (key j B2 (Ne.symm hne) h5) h7)
   ·by_cases hj : j = id
    ·subst hj
     rw [hb] at h7
     simp only [Option.some.injEq, Prod.mk.injEq] at h7
     obtain ⟨rfl, _⟩ := h7
     exact absurd rfl (nV h hB hl hb hi (key i B1 hi h4) h6)
    ·exact h.sep i j B1 B2 b1 o1 o2 n1 n2 hne (eO (key i B1 hi h4)).1 (eO (key j B2 hj h5)).1 h6 h7
  ·intro i j B2 b1 o1 o2 n1 n2 hi hj h5 h6 h7
   by_cases hjd : j = id
   ·subst hjd
    exact h.side i j _ b1 o1 o2 n1 n2 hi hj hB h6 h7
   ·exact h.side i j _ b1 o1 o2 n1 n2 hi hj (eO (key j B2 hjd h5)).1 h6 h7
 ·intro k hk hn
  exact ho k fun e => hn (e ▸ ⟨id, _, o, n, hl, hB, hb⟩)
 ·intro i B2 hi h4
  by_cases hid : i = id
  ·subst hid; exact ⟨_, hB⟩
  ·exact ⟨_, (eO (key i B2 hid h4)).1⟩
 ·intro i hi
  show ((gX lo A.H cls shr).put id _).get i = _
  rw [T.aI _ (by omega), Gc hi]
theorem Go.obj (h : aL lo β A w) {id : Nat} {B B' : Blk} (hB : A.H.get id = some B) (hm : ∀ B2, ¬ iE B B2) (hl : lo <= id) (hbig : id < big) {b o n : Nat} (hb : β id = some (b, o, n))
  (hs : w'.heap.size = w.heap.size) (ho : ∀ k, k ≠ b -> w'.heap[k]? = w.heap[k]?) (hB' : B'.Rel β w'.heap b o n)
  (h1 : w'.os = w.os) (h2 : w'.tape = w.tape) (h3 : w'.output = w.output) :
  Go lo β A w β ⟨A.H.put id (some B'), A.nx⟩ w' := by
 have key : ∀ i B2, i ≠ id -> (A.H.put id (some B')).get i = some B2 -> A.H.get i = some B2 := fun i B2 hi h4 => by rwa [T.aI _ hi] at h4
 have apart : ∀ i B2 b' o' n', i ≠ id -> A.H.get i = some B2 -> β i = some (b', o', n') -> b' ≠ b := fun i B2 b' o' n' hi h4 h5 => by
  rintro rfl
  exact hm B2 (h.sep id i B B2 _ _ _ _ _ (Ne.symm hi) hB h4 hb h5)
 refine { rel := ?_, ext := .refl β, nx := Nat.le_refl _, size := by omega, old := ?_, back := ?_, keep := ?_, fresh := fun i b o n hi hb => (by rw [h.nx i hi] at hb; cases hb), old' := fun _ _ _ hb => hb, os := h1, tape := h2, output := h3 }
 ·refine { lo_le := h.lo_le, blk := ?_, nx := h.nx, here := by rw [hs]; exact h.here, sep := ?_, side := ?_ }
  ·intro i B2 h4
   by_cases hi : i = id
   ·subst hi
    simp only [T.bE _ hbig, Option.some.injEq] at h4
    subst h4
    exact ⟨b, o, n, hb, by rw [hs]; exact h.here _ _ _ _ hb, hB'⟩
   ·have h5 := key i B2 hi h4
    obtain ⟨b2, o2, n2, h6, h7, h8⟩ := h.blk i B2 h5
    exact ⟨b2, o2, n2, h6, by rw [hs]; exact h7, h8.mono (.refl β) (ho b2 (apart i B2 _ _ _ hi h5 h6))⟩
  ·intro i j B1 B2 b1 o1 o2 n1 n2 hne h4 h5 h6 h7
   by_cases hi : i = id
   ·subst hi
    rw [hb] at h6
    simp only [Option.some.injEq, Prod.mk.injEq] at h6
    obtain ⟨rfl, _⟩ := h6
    exact absurd rfl (apart j B2 _ _ _ (Ne.symm hne) (key j B2 (Ne.symm hne) h5) h7)
   ·by_cases hj : j = id
    ·subst hj
     rw [hb] at h7
     simp only [Option.some.injEq, Prod.mk.injEq] at h7
     obtain ⟨rfl, _⟩ := h7
     exact absurd rfl (apart i B1 _ _ _ hi (key i B1 hi h4) h6)
    ·exact h.sep i j B1 B2 b1 o1 o2 n1 n2 hne (key i B1 hi h4) (key j B2 hj h5) h6 h7
  ·intro i j B2 b1 o1 o2 n1 n2 hi hj h5 h6 h7
   by_cases hjd : j = id
   ·subst hjd
    exact h.side i j _ b1 o1 o2 n1 n2 hi hj hB h6 h7
   ·exact h.side i j _ b1 o1 o2 n1 n2 hi hj (key j B2 hjd h5) h6 h7
 ·intro k hk hn
  exact ho k fun e => hn (e ▸ ⟨id, _, o, n, hl, hB, hb⟩)
 ·intro i B2 hi h4
  by_cases hid : i = id
  ·subst hid; exact ⟨_, hB⟩
  ·exact ⟨_, key i B2 hid h4⟩
 ·intro i hi
  show (A.H.put id _).get i = _
  rw [T.aI _ (by omega)]
theorem Go.grow (h : aL lo β A w) (hbig : A.nx < big) {id : Nat} {cs new : List AV} {cls : Nat} {shr : Bool} (hB : A.H.get id = some (.cells cs cls true shr)) (hl : lo <= id) {b o n : Nat} (hb : β id = some (b, o, n))
  {b' o' n' : Nat} (hp : (b' = b ∧ w'.heap.size = w.heap.size ∧ ∀ k, k ≠ b -> w'.heap[k]? = w.heap[k]?) ∨ (b' = w.heap.size ∧ w'.heap.size = w.heap.size + 1 ∧ ∀ k, k < w.heap.size -> w'.heap[k]? = w.heap[k]?))
  (hold : (Blk.cells cs cls false true).Rel β w'.heap b o n) (hnew : (Blk.cells new cls true true).Rel (upd β A.nx (b', o', n')) w'.heap b' o' n')
  (h1 : w'.os = w.os) (h2 : w'.tape = w.tape) (h3 : w'.output = w.output) :
  Go lo β A w (upd β A.nx (b', o', n')) ⟨((gX lo A.H cls shr).put id (some (.cells cs cls false true))).put A.nx (some (.cells new cls true true)), A.nx + 1⟩ w' := by
 have hid := h.lt hB
 have hsz : w.heap.size <= w'.heap.size := by rcases hp with ⟨_, h, _⟩ | ⟨_, h, _⟩ <;> omega
 have Ui : ∀ k, k < w.heap.size -> k ≠ b -> w'.heap[k]? = w.heap[k]? := fun k hk hne => by
  rcases hp with ⟨_, _, h⟩ | ⟨_, _, h⟩
  ·exact h k hne
  ·exact h k hk
 have hlt := h.here _ _ _ _ hb
 have zIh : b' < w'.heap.size := by rcases hp with ⟨e, h, _⟩ | ⟨e, h, _⟩ <;> omega
 have Di : ∀ i B2, (((gX lo A.H cls shr).put id (some (.cells cs cls false true))).put A.nx (some (.cells new cls true true))).get i = some B2 ->
   (i = A.nx ∧ B2 = .cells new cls true true) ∨ (i = id ∧ B2 = .cells cs cls false true) ∨ (i ≠ A.nx ∧ i ≠ id ∧ (gX lo A.H cls shr).get i = some B2) := fun i B2 h4 => by
  by_cases hi : i = A.nx
  ·subst hi
   simp only [T.bE _ hbig, Option.some.injEq] at h4
   exact .inl ⟨rfl, h4.symm⟩
  ·rw [T.aI _ hi] at h4
   by_cases hi2 : i = id
   ·subst hi2
    rw [T.bE _ (by omega)] at h4
    simp only [Option.some.injEq] at h4
    exact .inr (.inl ⟨rfl, h4.symm⟩)
   ·rw [T.aI _ hi2] at h4
    exact .inr (.inr ⟨hi, hi2, h4⟩)
 have hne0 : id ≠ A.nx := by omega
 have far : ∀ i B2 b2 o2 n2, i ≠ A.nx -> i ≠ id -> (gX lo A.H cls shr).get i = some B2 -> β i = some (b2, o2, n2) -> b2 ≠ b ∧ b2 ≠ b' := fun i B2 b2 o2 n2 _ hi2 h5 h6 => by
  have e1 := nV h hB hl hb hi2 h5 h6
  have := h.here _ _ _ _ h6
  exact ⟨e1, by rcases hp with ⟨e, _⟩ | ⟨e, _⟩ <;> omega⟩
 refine { rel := ?_, ext := fV h _, nx := Nat.le_succ _, size := hsz, old := ?_, back := ?_, keep := ?_, fresh := ?_, old' := fun i p hi hb' => by rwa [aB _ _ (Nat.ne_of_lt hi)] at hb', os := h1, tape := h2, output := h3 }
 ·refine { lo_le := Nat.le_succ_of_le h.lo_le, blk := ?_, nx := ?_, here := ?_, sep := ?_, side := ?_ }
  ·intro i B2 h4
   rcases Di i B2 h4 with ⟨rfl, rfl⟩ | ⟨rfl, rfl⟩ | ⟨hi, hi2, h5⟩
   ·exact ⟨b', o', n', upd_same _ _ _, zIh, hnew⟩
   ·exact ⟨b, o, n, by rw [aB _ _ hne0]; exact hb, by omega, hold.mono (fV h _) rfl⟩
   ·obtain ⟨b2, o2, n2, h6, h7, h8⟩ := h.blk i B2 (eO h5).1
    exact ⟨b2, o2, n2, by rw [aB _ _ hi]; exact h6, by omega, h8.mono (fV h _) (Ui b2 h7 (far i B2 _ _ _ hi hi2 h5 h6).1)⟩
  ·intro i hi
   rw [aB _ _ (by simp at hi; omega)]
   exact h.nx i (by simp at hi; omega)
  ·intro i b2 o2 n2 h4
   by_cases hi : i = A.nx
   ·subst hi
    rw [upd_same] at h4
    simp only [Option.some.injEq, Prod.mk.injEq] at h4
    omega
   ·rw [aB _ _ hi] at h4
    have := h.here _ _ _ _ h4
    omega
  ·intro i j B1 B2 b1 o1 o2 n1 n2 hne h4 h5 h6 h7
   rcases Di i B1 h4 with ⟨rfl, rfl⟩ | ⟨rfl, rfl⟩ | ⟨hi, hi2, h4'⟩
   ·rw [upd_same] at h6
    simp only [Option.some.injEq, Prod.mk.injEq] at h6
    obtain ⟨rfl, rfl, rfl⟩ := h6
    rw [aB _ _ (Ne.symm hne)] at h7
    rcases Di j B2 h5 with ⟨rfl, rfl⟩ | ⟨rfl, rfl⟩ | ⟨hj, hj2, h5'⟩
    ·exact absurd rfl hne
    ·simp [iE]
    ·exact absurd rfl (far j B2 _ _ _ hj hj2 h5' h7).2
   ·rw [aB _ _ hne0, hb] at h6
    simp only [Option.some.injEq, Prod.mk.injEq] at h6
    obtain ⟨rfl, rfl, rfl⟩ := h6
    rcases Di j B2 h5 with ⟨rfl, rfl⟩ | ⟨rfl, rfl⟩ | ⟨hj, hj2, h5'⟩
    ·simp [iE]
    ·exact absurd rfl hne
    ·rw [aB _ _ hj] at h7
     exact absurd rfl (far j B2 _ _ _ hj hj2 h5' h7).1
   ·rw [aB _ _ hi] at h6
    rcases Di j B2 h5 with ⟨rfl, rfl⟩ | ⟨rfl, rfl⟩ | ⟨hj, hj2, h5'⟩
    ·rw [upd_same] at h7
     simp only [Option.some.injEq, Prod.mk.injEq] at h7
     obtain ⟨rfl, rfl, rfl⟩ := h7
     exact absurd rfl (far i B1 _ _ _ hi hi2 h4' h6).2
    ·rw [aB _ _ hne0, hb] at h7
     simp only [Option.some.injEq, Prod.mk.injEq] at h7
     obtain ⟨rfl, rfl, rfl⟩ := h7
     exact absurd rfl (far i B1 _ _ _ hi hi2 h4' h6).1
    ·rw [aB _ _ hj] at h7
     exact h.sep i j B1 B2 b1 o1 o2 n1 n2 hne (eO h4').1 (eO h5').1 h6 h7
  ·intro i j B2 b1 o1 o2 n1 n2 hi hj h5 h6 h7
   have hi1 : i ≠ A.nx := by have := h.lo_le; omega
   rw [aB _ _ hi1] at h6
   have zKo := h.here _ _ _ _ h6
   rcases Di j B2 h5 with ⟨rfl, rfl⟩ | ⟨rfl, rfl⟩ | ⟨hj1, hj2, h5'⟩
   ·rw [upd_same] at h7
    simp only [Option.some.injEq, Prod.mk.injEq] at h7
    obtain ⟨rfl, _⟩ := h7
    rcases hp with ⟨e, _⟩ | ⟨e, _⟩
    ·subst e; exact h.side i id _ _ _ _ _ _ hi hl hB h6 hb
    ·omega
   ·rw [aB _ _ hne0] at h7
    exact h.side i j _ _ _ _ _ _ hi hj hB h6 h7
   ·rw [aB _ _ hj1] at h7
    exact h.side i j _ _ _ _ _ _ hi hj (eO h5').1 h6 h7
 ·intro k hk hn
  exact Ui k hk fun e => hn (e ▸ ⟨id, _, o, n, hl, hB, hb⟩)
 ·intro i B2 hi h4
  rcases Di i B2 h4 with ⟨rfl, rfl⟩ | ⟨rfl, rfl⟩ | ⟨_, _, h5⟩
  ·omega
  ·exact ⟨_, hB⟩
  ·exact ⟨_, (eO h5).1⟩
 ·intro i hi
  have h1 := h.lo_le
  show (((gX lo A.H cls shr).put id _).put A.nx _).get i = _
  rw [T.aI _ (by omega), T.aI _ (by omega), Gc hi]
 ·intro i b2 o2 n2 hi h4
  by_cases hi' : i = A.nx
  ·subst hi'
   rw [upd_same] at h4
   simp only [Option.some.injEq, Prod.mk.injEq] at h4
   obtain ⟨rfl, _⟩ := h4
   rcases hp with ⟨e, _⟩ | ⟨e, _⟩
   ·exact .inr (e ▸ ⟨id, _, o, n, hl, hB, hb⟩)
   ·exact .inl (by omega)
  ·rw [aB _ _ hi', h.nx i hi] at h4; cases h4
end
end Go.Ce
