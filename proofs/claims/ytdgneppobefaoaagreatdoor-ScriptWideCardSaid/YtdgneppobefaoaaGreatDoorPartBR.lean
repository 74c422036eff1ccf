/- Part of a proof over this seat: a library of my own, and what it says of this seat. No statement is proved here. -/
import GoSem.ClaimGoes
namespace Go.Dec
theorem zGm {P:Program} (h:P.funcs.any Func.goes=false) (f:FuncId):P.goes f=false:=by
 have hg:∀ g:Nat,(P.funcs[g]?).any Func.goes=false:=by
  intro g
  cases hx:P.funcs[g]? with
  | none=>rfl
  | some fn =>
   rw [Array.any_eq_false] at h
   obtain ⟨hl,he⟩:=Array.getElem?_eq_some_iff.1 hx
   have:=h g hl
   rw [he] at this
   simpa using this
 unfold Program.goes
 rw [h,Bool.and_false,Bool.or_false]
 simp [hg]
theorem zKx {P:Program} (h:P.funcs.any Func.goes=false) (c:OpenClaim):false=c.goesBy P:=by
 unfold OpenClaim.goesBy Program.goesAt Program.goesFrom
 have h1:∀ o:Option FuncId,o.any P.goes=false:=fun o=>by cases o <;> simp [zGm h]
 rw [h1]
 cases c.start <;> simp [zGm h]
end Go.Dec
