/- Part of a proof over this seat: a library of my own, and what it says of this seat. No statement is proved here. -/
import Derived.Test.YtmpoakdpdflfgaaGreatDoorPartBO
import Derived.Test.YtmpoakdpdflfgaaGreatDoorPartBM
import GoSem.ClaimGoes
namespace Go.Dec
theorem wU (x : List UInt8 × List UInt8 × Bool) : nK 2000 x = some true := by
 obtain ⟨line, t, cuts⟩ := x
 unfold nK
 simp only
 by_cases h1 : decide ((line.length : Int) > 200) = true
 ·rw [bP h1]; rfl
 ·rw [bI (by simpa using h1)]
  have h1 : ¬ (line.length : Int) > 200 := by simpa using h1
  by_cases h2 : decide ((t.length : Int) > 200) = true
  ·rw [bP h2]; rfl
  ·rw [bI (by simpa using h2)]
   obtain ⟨r, hr⟩ := zFn (n := 2000) (s := line) (by omega) (by omega)
   rw [show shown22 2000 () = some true from rfl, iQ, bI (b := !true) rfl, hr, iQ]
   by_cases h3 : (r.2.2 == 0) = true
   ·rw [bP h3]
   ·have h3 : ¬ r.2.2 = 0 := by simpa using h3
    have hne : (r.2.2 != 0) = true := by simpa using h3
    have hst : ∀ t, jF 2000 (line, t) = some ([], r.2.1, r.2.2) := by
     intro t
     unfold jF
     simp only
     rw [hr, iQ, bP hne]
    have hR : ∀ t u c f, rW 2000 (line, u, t, c, f) = some (([], ([], ([], (0, (0, ()))))), r.2.1, r.2.2) := by
     intro t u c f
     unfold rW dZ
     simp only
     rw [hst, iQ, bP hne, iQ]
    have hF : ∀ t u f, pE 2000 (line, u, t, f) = some (([], ([], ([], (0, (0, ()))))), r.2.1, r.2.2) := by
     intro t u f
     unfold pE dU
     simp only
     rw [hst, iQ, bP hne, iQ]
    rw [bI (by simpa using h3), hR, iQ, hF, iQ]
    simp
end Go.Dec
namespace Go.Dec
theorem Zz {P : Program} (h : P.funcs.any Func.goes = false) (f : FuncId) : P.goes f = false := by
 have hg : ∀ g : Nat, (P.funcs[g]?).any Func.goes = false := by
  intro g
  cases hx : P.funcs[g]? with
  | none => rfl
  | some fn =>
   rw [Array.any_eq_false] at h
   obtain ⟨hl, he⟩ := Array.getElem?_eq_some_iff.1 hx
   have := h g hl
   rw [he] at this
   simpa using this
 unfold Program.goes
 rw [h, Bool.and_false, Bool.or_false]
 simp [hg]
theorem zDq {P : Program} (h : P.funcs.any Func.goes = false) (c : OpenClaim) : false = c.goesBy P := by
 unfold OpenClaim.goesBy Program.goesAt Program.goesFrom
 have h1 : ∀ o : Option FuncId, o.any P.goes = false := fun o => by cases o <;> simp [Zz h]
 rw [h1]
 cases c.start <;> simp [Zz h]
end Go.Dec
