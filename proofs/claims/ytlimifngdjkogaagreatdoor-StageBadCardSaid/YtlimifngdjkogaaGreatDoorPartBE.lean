/- Part of a proof over this seat: a library of my own, and what it says of this seat. No statement is proved here. -/
import Derived.Test.YtlimifngdjkogaaGreatDoorPartBD
import Derived.Test.YtlimifngdjkogaaGreatDoorPartAL
namespace Go.Ce
def lkG (f : Nat) : List (Nat × Gv) -> Option Gv
 | [] => none
 | p :: r => cnd (Nat.beq f p.1) (some p.2) (lkG f r)
theorem Us {f : Nat} {g : Gv} : ∀ {l : List (Nat × Gv)}, lkG f l = some g -> (f, g) ∈ l
 | p :: r, h => by
  unfold lkG cnd at h
  split at h
  ·rename_i hc
   simp only [Option.some.injEq] at h
   have := Nat.eq_of_beq_eq_true hc
   subst this h
   exact .head _
  ·exact .tail _ (Us h)
def lkT (f : Nat) : List (Nat × TypeId × AV) -> Option (TypeId × AV)
 | [] => none
 | p :: r => cnd (Nat.beq f p.1) (some p.2) (lkT f r)
theorem Ut {f : Nat} {g : TypeId × AV} : ∀ {l : List (Nat × TypeId × AV)}, lkT f l = some g -> (f, g) ∈ l
 | p :: r, h => by
  unfold lkT cnd at h
  split at h
  ·rename_i hc
   simp only [Option.some.injEq] at h
   have := Nat.eq_of_beq_eq_true hc
   subst this h
   exact .head _
  ·exact .tail _ (Ut h)
def Yi (ds : List (Nat × AV)) (all : List Nat) : Gv := fun _ A xs => match xs with
 | [] => ck (Nat.blt A.nx big) (fN (A.nx + 1) fun n => some (.mp A.nx, ⟨A.H.put A.nx (some (.dict .u8 ds all)), n⟩))
 | _ => none
theorem zCx {P : Program} {f : FuncId} {ds : List (Nat × AV)} {all : List Nat} (hk : ∀ lo A, A.nx < big -> bD P lo f [] A (.ret (.mp A.nx)) ⟨A.H.put A.nx (some (.dict .u8 ds all)), A.nx + 1⟩)
  (lo : Nat) (A : W) (args : List AV) (v : AV) (A' : W) (h : Yi ds all lo A args = some (v, A')) : bD P lo f args A (.ret v) A' := by
 unfold Yi at h
 split at h
 ·replace h := aD h; obtain ⟨hc, h⟩ := h
  rw [bR] at h
  simp only [Option.some.injEq, Prod.mk.injEq] at h
  obtain ⟨rfl, rfl⟩ := h
  rw [Nat.blt_eq] at hc
  exact hk lo A hc
 ·cases h
def Yj (x : Option (Out × W)) : Option Bool := match x with | some (.ret (.bo b), _) => some b | _ => none
theorem zAj {x : Option (Out × W)} {b : Bool} (h : Yj x = some b) : ∃ A, x = some (.ret (.bo b), A) := by
 unfold Yj at h
 split at h
 ·simp only [Option.some.injEq] at h; subst h; exact ⟨_, rfl⟩
 ·cases h
open Go.Dec (Pure Keep fK) in
theorem Tt {E : Env} (hE : bV E) {k : Nat} {f : FuncId} {b : Bool} (hb : fK E.P f = true) (h : Yj (qY E (run E k) 0 f [] ⟨.nil, 0⟩) = some b) : Pure E.P f [] [.bool] (fun _ => some b) := by
 obtain ⟨A', h⟩ := zAj h
 refine ⟨hb, fun x y hxy w N xs _ _ hx => ?_⟩
 simp only [Option.some.injEq] at hxy
 subst hxy
 simp only [Go.Dec.DensRel] at hx
 subst hx
 obtain ⟨_, hc⟩ := xU hE (mH hE k) h noB w [] (Ec w) rfl
 refine hc.mono fun e w' ⟨β', hg, ho⟩ => ?_
 obtain ⟨y, rfl, hy⟩ := ho
 simp only [AV.Rel] at hy
 subst hy
 have hk : ∀ j, j < w.heap.size -> w'.heap[j]? = w.heap[j]? := hg.none_old
 refine ⟨[.bool b], rfl, hg.os, hg.tape, hg.output, Keep.qR (M := fun _ => False) hg.size (fun j hj _ => hk j hj) (fun _ _ h => h), ?_⟩
 exact ⟨_, rfl, rfl⟩
end Go.Ce
