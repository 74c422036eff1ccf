/- Part of a proof over this seat: a library of my own, and what it says of this seat. No statement is proved here. -/
import Derived.Test.YtclpnkdjjhclnaaGreatDoorPartAD
import Derived.Lib.AppendStr
namespace Go.Dec
section
variable {β : Nat -> Pl} {w : World} {T : Tab} {C : Ctx}
theorem Gd (places : Nat -> Option (Nat × Nat)) (cs : Array Value) (i off size : Nat) (v : Value) (rest : List (Nat × Value)) (hp : places i = some (off, size)) (hsz : v.cells.size = size) (hfit : off + size <= cs.size) :
  Instr.fill places cs ((i, v) :: rest) = Instr.fill places (cs.toList.take off ++ v.cells.toList ++ cs.toList.drop (off + size)).toArray rest := by
 simp only [Instr.fill, hp]
 rw [if_neg (by simp only [Bool.or_eq_true, decide_eq_true_eq, not_or]; constructor <;> omega)]
 congr 1
 have key : ∀ (vs : List Value) (k : Nat) (cs : Array Value), off + k + vs.length <= cs.size ->
   (vs.zipIdx k).foldl (fun (cs : Array Value) (p : Value × Nat) => cs.setIfInBounds (off + p.2) p.1) cs = (cs.toList.take (off + k) ++ vs ++ cs.toList.drop (off + k + vs.length)).toArray := by
  intro vs
  induction vs with
  | nil => intro k cs _; simp
  | cons v vs ih =>
   intro k cs hk
   simp only [List.zipIdx_cons, List.foldl_cons]
   rw [ih (k + 1) _ (by simp at hk ⊢; omega)]
   have e := list_seg_step cs.toList (off + k) v vs (by simp at hk ⊢; omega)
   congr 1
   simpa [Array.toList_setIfInBounds, Nat.add_assoc] using e
 rw [<- Array.foldl_toList]
 have := key v.cells.toList 0 cs (by simp; omega)
 simp only [Nat.add_zero, Array.length_toList, hsz] at this
 rw [<- this]
 simp [Array.toList_zipIdx]
end
end Go.Dec
namespace Go.Dec
section
variable {β : Nat -> Pl} {w : World} {T : Tab} {C : Ctx}
end
end Go.Dec
