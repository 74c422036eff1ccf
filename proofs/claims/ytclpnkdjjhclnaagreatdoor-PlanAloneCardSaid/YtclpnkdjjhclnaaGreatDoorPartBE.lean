/- Part of a proof over this seat: a library of my own, and what it says of this seat. No statement is proved here. -/
import Derived.Test.YtclpnkdjjhclnaaGreatDoorPartBD
import Derived.Test.YtclpnkdjjhclnaaGreatDoorPartAL
namespace Go.Ce
def lkG (f : Nat) : List (Nat × Gv) -> Option Gv
 | [] => none
 | p :: r => cnd (Nat.beq f p.1) (some p.2) (lkG f r)
theorem Cn {f : Nat} {g : Gv} : ∀ {l : List (Nat × Gv)}, lkG f l = some g -> (f, g) ∈ l
 | p :: r, h => by
  unfold lkG cnd at h
  split at h
  ·rename_i hc
   simp only [Option.some.injEq] at h
   have := Nat.eq_of_beq_eq_true hc
   subst this h
   exact .head _
  ·exact .tail _ (Cn h)
def lkT (f : Nat) : List (Nat × TypeId × AV) -> Option (TypeId × AV)
 | [] => none
 | p :: r => cnd (Nat.beq f p.1) (some p.2) (lkT f r)
theorem Cq {f : Nat} {g : TypeId × AV} : ∀ {l : List (Nat × TypeId × AV)}, lkT f l = some g -> (f, g) ∈ l
 | p :: r, h => by
  unfold lkT cnd at h
  split at h
  ·rename_i hc
   simp only [Option.some.injEq] at h
   have := Nat.eq_of_beq_eq_true hc
   subst this h
   exact .head _
  ·exact .tail _ (Cq h)
def Fz (ds : List (Nat × AV)) (all : List Nat) : Gv := fun _ A xs => match xs with
 | [] => ck (Nat.blt A.nx big) (fN (A.nx + 1) fun n => some (.mp A.nx, ⟨A.H.put A.nx (some (.dict .u8 ds all)), n⟩))
 | _ => none
theorem Ju {P : Program} {f : FuncId} {ds : List (Nat × AV)} {all : List Nat} (hk : ∀ lo A, A.nx < big -> aR P lo f [] A (.ret (.mp A.nx)) ⟨A.H.put A.nx (some (.dict .u8 ds all)), A.nx + 1⟩)
  (lo : Nat) (A : W) (args : List AV) (v : AV) (A' : W) (h : Fz ds all lo A args = some (v, A')) : aR P lo f args A (.ret v) A' := by
 unfold Fz at h
 split at h
 ·replace h := aC h; obtain ⟨hc, h⟩ := h
  rw [aU] at h
  simp only [Option.some.injEq, Prod.mk.injEq] at h
  obtain ⟨rfl, rfl⟩ := h
  rw [Nat.blt_eq] at hc
  exact hk lo A hc
 ·cases h
def gL (x : Option (Out × W)) : Option Bool := match x with | some (.ret (.bo b), _) => some b | _ => none
theorem Hu {x : Option (Out × W)} {b : Bool} (h : gL x = some b) : ∃ A, x = some (.ret (.bo b), A) := by
 unfold gL at h
 split at h
 ·simp only [Option.some.injEq] at h; subst h; exact ⟨_, rfl⟩
 ·cases h
end Go.Ce
