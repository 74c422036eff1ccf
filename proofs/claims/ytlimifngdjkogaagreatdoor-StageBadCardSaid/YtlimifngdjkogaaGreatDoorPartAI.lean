/- Part of a proof over this seat: a library of my own, and what it says of this seat. No statement is proved here. -/
import Derived.Test.YtlimifngdjkogaaGreatDoorPartAG
namespace Go.Dec
theorem Oz {i : Nat} : ∀ {l : List Nat} {n j : Nat}, pos i l n = some j -> ∃ m, j = n + m ∧ l[m]? = some i
 | [], _, _, h => by cases h
 | a :: r, n, j, h => by
  simp only [pos] at h
  split at h
  ·rename_i hb
   have := Nat.eq_of_beq_eq_true hb
   simp only [Option.some.injEq] at h
   subst h this
   exact ⟨0, rfl, rfl⟩
  ·obtain ⟨m, h1, h2⟩ := Oz h
   exact ⟨m + 1, by omega, by simpa using h2⟩
theorem Pf {i : Nat} : ∀ {l : List Nat} {n : Nat}, pos i l n = none -> i ∉ l
 | [], _, _ => by simp
 | a :: r, n, h => by
  simp only [pos] at h
  split at h
  ·cases h
  ·rename_i hb
   intro hm
   cases hm with
   | head => simp at hb
   | tail _ hm => exact Pf h hm
def nodupB : List Nat -> Bool
 | [] => true
 | a :: r => (match pos a r 0 with | none => true | some _ => false) && nodupB r
theorem Fe : ∀ {l : List Nat}, nodupB l = true -> ∀ {i j : Nat} {a : Nat}, l[i]? = some a -> l[j]? = some a -> i = j
 | [], _, _, _, _, h, _ => by simp at h
 | x :: r, h, i, j, a, hi, hj => by
  simp only [nodupB, Bool.and_eq_true] at h
  obtain ⟨h1, h2⟩ := h
  have hx : x ∉ r := by
   split at h1
   ·rename_i hn; exact Pf hn
   ·cases h1
  cases i with
  | zero =>
   cases j with
   | zero => rfl
   | succ j =>
    simp only [List.getElem?_cons_zero, Option.some.injEq] at hi
    subst hi
    exact absurd (List.mem_of_getElem? (by simpa using hj)) hx
  | succ i =>
   cases j with
   | zero =>
    simp only [List.getElem?_cons_zero, Option.some.injEq] at hj
    subst hj
    exact absurd (List.mem_of_getElem? (by simpa using hi)) hx
   | succ j => rw [Fe h2 (i := i) (j := j) (by simpa using hi) (by simpa using hj)]
def Db (h : List Ob) (id : Nat) : Nat :=
 match h[id]? with
 | some (.arr _ _ v _ _) => v
 | _ => 0
mutual
def L.ren (ρ : List Nat) (h : List Ob) : L -> L
 | .val t x => .val t x
 | .gI => .gI
 | .bM id o => match pos id ρ 0 with
  | some j => .bM j o
  | none => .bad 1
 | .aS => .aS
 | .dX t x o => .dX t x o
 | .bad n => .bad n
 | .oZ x tab => .oZ x tab
 | .mp id => match pos id ρ 0 with
  | some j => .mp j
  | none => .bad 1
 | .ptr id o => match pos id ρ 0 with
  | some j => .ptr j o
  | none => .bad 1
 | .eY id o es i sub => match pos id ρ 0 with
  | some j => .eY j o es i sub
  | none => .bad 1
 | .bW id u i o => match pos id ρ 0, Nat.beq u (Db h id) with
  | some j, true => .bW j 0 i o
  | _, _ => .bad 1
 | .sl id u i n => match pos id ρ 0, Nat.beq u (Db h id) with
  | some j, true => .sl j 0 i n
  | _, _ => .bad 1
 | .own id u => match pos id ρ 0, Nat.beq u (Db h id) with
  | some j, true => .own j 0
  | _, _ => .bad 1
 | .clo f caps => .clo f (L.lX ρ h caps)
def L.lX (ρ : List Nat) (h : List Ob) : List L -> List L
 | [] => []
 | l :: ls => l.ren ρ h :: L.lX ρ h ls
end
def V.ren (ρ : List Nat) (h : List Ob) : V -> V
 | .one l => .one (l.ren ρ h)
 | .agg ls => .agg (L.lX ρ h ls)
 | _ => .aN
def Ob.ren (ρ : List Nat) (h : List Ob) : Ob -> Ob
 | .box e ls => .box e (L.lX ρ h ls)
 | .arr e t _ rows wr => .arr e t 0 rows wr
 | .fm tab => .fm tab
section
variable {β β' : Nat -> Pl} {w : World} {N N' : Nat -> Nat -> Prop}
theorem mX {l : L} {cs : List Value} (hl : l.size = 1) (h : l.Rel β w N cs) : (L.bad 1).Rel β' w N' cs := by
 simp only [L.Rel]
 exact ⟨by rw [h.length, hl], h.one⟩
mutual
theorem L.Rel.pF {ρ : List Nat} {h : List Ob} (hβ : ∀ i j, pos i ρ 0 = some j -> (β' j).live = (β i).live ∧ (β' j).box = (β i).box ∧ (β' j).blk = (β i).blk ∧ ((β i).box = false -> (β' j).ver = 0 ∧ (β i).ver = Db h i ∧ (β' j).size = (β i).size ∧ (β' j).cap = (β i).cap ∧ (β' j).len = (β i).len))
  (hN : ∀ b j, b < w.heap.size -> N' b j -> N b j) : ∀ {l : L} {cs : List Value}, l.Rel β w N cs -> (l.ren ρ h).Rel β' w N' cs
 | .val t x, cs, hr => by simp only [L.ren, L.Rel] at *; exact Ty.Rel.mono (Keep.refl _ w) hN hr
 | .gI, cs, hr => by simp only [L.ren, L.Rel] at *; exact hr
 | .bM id off, cs, hr => by
  simp only [L.ren]
  split
  ·rename_i j hp
   obtain ⟨k1, k2, k3, _⟩ := hβ id j hp
   simp only [L.Rel] at *
   rw [k1, k2, k3]
   exact hr
  ·exact mX rfl hr
 | .aS, cs, hr => by simp only [L.ren, L.Rel] at *; exact hr
 | .bad n, cs, hr => by simp only [L.ren, L.Rel] at *; exact hr
 | .oZ x tab, cs, hr => by simp only [L.ren, L.Rel] at *; exact hr
 | .mp id, cs, hr => by
  simp only [L.ren]
  split
  ·rename_i j hp
   obtain ⟨k1, k2, k3, _⟩ := hβ id j hp
   simp only [L.Rel] at *
   rw [k1, k2, k3]
   exact hr
  ·exact mX rfl hr
 | .dX t x off, cs, hr => by simp only [L.ren, L.Rel] at *; obtain ⟨c, hc, hr⟩ := hr; exact ⟨c, hc, hr.mono (Keep.refl _ w) hN⟩
 | .ptr id off, cs, hr => by
  simp only [L.ren]
  split
  ·rename_i j hp
   obtain ⟨k1, k2, k3, _⟩ := hβ id j hp
   simp only [L.Rel] at *
   rw [k1, k2, k3]
   exact hr
  ·exact mX rfl hr
 | .eY id off es i sub, cs, hr => by
  simp only [L.ren]
  split
  ·rename_i j hp
   obtain ⟨k1, k2, k3, _⟩ := hβ id j hp
   simp only [L.Rel] at *
   rw [k1, k2, k3]
   exact hr
  ·exact mX rfl hr
 | .bW id u i off, cs, hr => by
  simp only [L.ren]
  split
  ·rename_i j hp hu
   obtain ⟨k1, k2, k3, k4⟩ := hβ id j hp
   have hu := Nat.eq_of_beq_eq_true hu
   simp only [L.Rel] at *
   obtain ⟨g1, g2, g3, c, g4, g5, g6⟩ := hr
   obtain ⟨m1, m2, m3, m4, m5⟩ := k4 g2
   refine ⟨k1 ▸ g1, k2 ▸ g2, by omega, c, g4, g5, fun _ => ?_⟩
   rw [k3, m3]
   exact g6 (by omega)
  ·exact mX rfl hr
 | .sl id u off len, cs, hr => by
  simp only [L.ren]
  split
  ·rename_i j hp hu
   obtain ⟨k1, k2, k3, k4⟩ := hβ id j hp
   have hu := Nat.eq_of_beq_eq_true hu
   simp only [L.Rel] at *
   obtain ⟨g1, g2, g3, c, g4, g5, g6⟩ := hr
   obtain ⟨m1, m2, m3, m4, m5⟩ := k4 g2
   refine ⟨k1 ▸ g1, k2 ▸ g2, by omega, c, g4, g5, fun _ => ?_⟩
   have := g6 (by omega)
   unfold bP at *
   rw [k3, m3, m4]
   exact this
  ·exact mX rfl hr
 | .own id u, cs, hr => by
  simp only [L.ren]
  split
  ·rename_i j hp hu
   obtain ⟨k1, k2, k3, k4⟩ := hβ id j hp
   have hu := Nat.eq_of_beq_eq_true hu
   simp only [L.Rel] at *
   obtain ⟨g1, g2, g3, c, g4, g5, g6⟩ := hr
   obtain ⟨m1, m2, m3, m4, m5⟩ := k4 g2
   refine ⟨k1 ▸ g1, k2 ▸ g2, by omega, c, g4, g5, fun _ => ?_⟩
   have := g6 (by omega)
   unfold bP at *
   rw [k3, m3, m4, m5]
   exact this
  ·exact mX rfl hr
 | .clo f caps, cs, hr => by
  simp only [L.ren, L.Rel] at *
  obtain ⟨us, hc, hr⟩ := hr
  exact ⟨us, hc, L.aU.pF hβ hN hr⟩
theorem L.aU.pF {ρ : List Nat} {h : List Ob} (hβ : ∀ i j, pos i ρ 0 = some j -> (β' j).live = (β i).live ∧ (β' j).box = (β i).box ∧ (β' j).blk = (β i).blk ∧ ((β i).box = false -> (β' j).ver = 0 ∧ (β i).ver = Db h i ∧ (β' j).size = (β i).size ∧ (β' j).cap = (β i).cap ∧ (β' j).len = (β i).len))
  (hN : ∀ b j, b < w.heap.size -> N' b j -> N b j) : ∀ {ls : List L} {us : List Value}, L.aU β w N ls us -> L.aU β' w N' (L.lX ρ h ls) us
 | [], us, hr => by simp only [L.lX, L.aU] at *; exact hr
 | l :: ls, us, hr => by
  simp only [L.lX, L.aU] at *
  obtain ⟨u, r, e, h1, h2⟩ := hr
  exact ⟨u, r, e, L.Rel.pF hβ hN h1, L.aU.pF hβ hN h2⟩
end
def Vx (β β' : Nat -> Pl) (ρ : List Nat) (h : List Ob) : Prop := ∀ i j, pos i ρ 0 = some j -> (β' j).live = (β i).live ∧ (β' j).box = (β i).box ∧ (β' j).blk = (β i).blk ∧ ((β i).box = false -> (β' j).ver = 0 ∧ (β i).ver = Db h i ∧ (β' j).size = (β i).size ∧ (β' j).cap = (β i).cap ∧ (β' j).len = (β i).len)
theorem aC.pF {ρ : List Nat} {h : List Ob} (hβ : Vx β β' ρ h) (hN : ∀ b j, b < w.heap.size -> N' b j -> N b j) : ∀ {ls : List L} {cs : List Value}, aC β w N ls cs -> aC β' w N' (L.lX ρ h ls) cs
 | [], _, hr => hr
 | _l :: _ls, _, ⟨c1, c2, e, h1, h2⟩ => ⟨c1, c2, e, L.Rel.pF hβ hN h1, aC.pF hβ hN h2⟩
theorem V.Rel.pF {ρ : List Nat} {h : List Ob} (hβ : Vx β β' ρ h) (hN : ∀ b j, b < w.heap.size -> N' b j -> N b j) {x : V} {u : Value} (hr : x.Rel β w N u) : (x.ren ρ h).Rel β' w N' u := by
 cases x with
 | one l => exact L.Rel.pF hβ hN hr
 | agg ls => obtain ⟨cs, e, hr⟩ := hr; exact ⟨cs, e, hr.pF hβ hN⟩
 | _ => trivial
end
def Mi (h : List Ob) (i : Nat) : Ob :=
 match h[i]? with
 | some o => o
 | none => .box 0 []
def inH (ρ : List Nat) (h : List Ob) : List Ob := ρ.map fun i => (Mi h i).ren ρ h
theorem uZ {ρ : List Nat} {h : List Ob} {j : Nat} {o : Ob} (hj : (inH ρ h)[j]? = some o) : ∃ i, ρ[j]? = some i ∧ o = (Mi h i).ren ρ h := by
 simp only [inH, List.getElem?_map, Option.map_eq_some_iff] at hj
 obtain ⟨i, h1, rfl⟩ := hj
 exact ⟨i, h1, rfl⟩
theorem mY {h : List Ob} {i : Nat} {o : Ob} (ho : h[i]? = some o) : Mi h i = o := by
 simp only [Mi, ho]
theorem Ob.Zk {ρ : List Nat} {h : List Ob} (o : Ob) : (o.ren ρ h).wr = o.wr := by cases o <;> rfl
theorem Ob.wO (ρ : List Nat) (h : List Ob) (o : Ob) : (o.ren ρ h).gZ = o.gZ := by cases o <;> rfl
end Go.Dec
