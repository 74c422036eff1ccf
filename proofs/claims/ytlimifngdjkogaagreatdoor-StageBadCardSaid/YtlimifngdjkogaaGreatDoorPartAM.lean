/- Part of a proof over this seat: a library of my own, and what it says of this seat. No statement is proved here. -/
import Derived.Test.YtlimifngdjkogaaGreatDoorPartAL
import Derived.WalkKit
import Derived.OwnWalkIn
import Derived.TacticsInMore
import Derived.Lib.SliceRun
namespace Go.Dec
section
variable {P : Program} {f : FuncId} {si so : Sh} {F : si.X -> Option so.X}
end
end Go.Dec
namespace Go.Dec
section
variable {T : Tab} {C : Ctx} {β : Nat -> Pl} {w : World}
def Wq (T : Tab) (σ : St) : ResultVar -> Option (Bool × V)
 | .tmp t => some (true, σ.r.getD t .aN)
 | .cell t ty =>
  match σ.r.getD t .aN with
  | .one l => loadAt T σ.h ty l
  | _ => none
def jD (T : Tab) (σ : St) : List ResultVar -> Option (Bool × List V)
 | [] => some (true, [])
 | x :: r =>
  match Wq T σ x, jD T σ r with
  | some (c, l), some (d, ls) => some (c && d, l :: ls)
  | _, _ => none
end
section
variable {P : Program} {T : Tab} {f : FuncId} {fn : Func} {c : Code} {si so sp : Sh}
structure GE (ρ : Type) where
 f : FuncId
 run : List V -> List Ob -> (Out -> List Ob -> Option ρ) -> Option ρ
structure GE.OK (P : Program) {ρ : Type} (g : GE ρ) : Prop where
 ok : ∀ vs h k r, g.run vs h k = some r -> fK P g.f = true ∧ qD P g.f vs h fun out h' => k out h' = some r ∧ ∀ id, id < h.length -> id ∉ reach vs h -> h'[id]? = h[id]?
def zBv {ρ : Type} : List (GE ρ) -> FuncId -> List V -> List Ob -> (Out -> List Ob -> Option ρ) -> Option ρ
 | [], _, _, _, _ => none
 | g :: r, f, vs, h, k => match Nat.beq g.f f with
  | true => g.run vs h k
  | false => zBv r f vs h k
def uK (ρ : Type) (l : List (FuncId × PE)) (m : List (GE ρ)) : Orc ρ := ⟨pes l, zBv m⟩
theorem lK {ρ : Type} {l : List (FuncId × PE)} {m : List (GE ρ)} (h : ∀ p ∈ l, p.2.OK P p.1) (hm : ∀ g ∈ m, g.OK P) : eD P (uK ρ l m) := by
 refine ⟨(zGj (ρ := ρ) h).pure, fun f vs hp k r hr => ?_⟩
 simp only [uK] at hr
 induction m with
 | nil => cases hr
 | cons g m ih =>
  simp only [zBv] at hr
  split at hr
  ·rename_i hb
   have := Nat.eq_of_beq_eq_true hb
   subst this
   exact (hm g (.head _)).ok vs hp k r hr
  ·exact ih (fun g hg => hm g (.tail _ hg)) hr
theorem lM {ρ : Type} : ∀ g ∈ ([] : List (GE ρ)), g.OK P := fun _ h => by cases h
end
end Go.Dec
namespace Go.Dec
open Go.RowKit
section
variable {P : Program} {f : FuncId} {fn : Func} {t tb e : TypeId} {p0 p1 p2 p3 p4 p5 p6 p7 : String}
set_option maxHeartbeats 1000000 in
set_option maxRecDepth 100000 in
set_option maxHeartbeats 1000000 in
set_option maxRecDepth 100000 in
end
end Go.Dec
