/- Part of a proof over this seat: a library of my own, and what it says of this seat. No statement is proved here. -/
import Derived.Test.YtclpnkdjjhclnaaGreatDoorPartAE
namespace Go.Dec
section
variable {β : Nat -> Pl} {w : World} {T : Tab} {C : Ctx}
def After (C : Ctx) (β : Nat -> Pl) (σ : St) (a : Act) (w : World) (o : Oper) (v : V) (h' : List Ob) : Prop :=
 ∃ β' w' n v', (execOp a.eval o).run C.P w = .ok n w' ∧ (n = .value v' ∨ (n = .skip ∧ v' = undef)) ∧ Moves β β' ∧ Keep (C.N β σ.h) w w' ∧ Sim C β' { σ with h := h' } a w' ∧ v.Rel β' w' (C.N β' h') v'
theorem After.read {σ : St} {a : Act} {o : Oper} {v : V} (hs : Sim C β σ a w) (h : ∃ v', (execOp a.eval o).run C.P w = .ok (.value v') w ∧ v.Rel β w (C.N β σ.h) v') : After C β σ a w o v σ.h := by
 obtain ⟨v', h1, h2⟩ := h
 exact ⟨β, w, _, v', h1, .inl rfl, Moves.refl β, Keep.refl _ w, hs, h2⟩
end
end Go.Dec
namespace Go.Dec
def isM (o : Oper) : Bool := match o.op with
 | .makeMap .. => true
 | .insert .. => true
 | .lookup .. => true
 | _ => false
def keyOf : V -> Option MK
 | .one (.val (.int k) n) => some (.i k n)
 | .one (.val .str s) => some (.s s)
 | _ => none
def Ot : V -> Option Nat
 | .one (.clo f []) => some f
 | _ => none
def memT : List (MK × Nat) -> MK -> Bool
 | [], _ => false
 | (a, _) :: r, x => MK.beq x a || memT r x
def tJ (tk : TK) (x : MK) : Bool := match tk, x with
 | .int k, .i k' _ => decide (k = k')
 | .str, .s _ => true
 | _, _ => false
def zA (tk : TK) : List (MK × Nat) -> Bool
 | [] => true
 | (a, _) :: r => tJ tk a && zA tk r
def stepM (T : Tab) (σ : St) (o : Oper) : Option (Bool × V × List Ob) :=
 match o.op with
 | .makeMap _ none => some (true, .one (.mp σ.h.length), σ.h ++ [.fm []])
 | .insert t m k x => match T.get t, ovl σ m, keyOf (ovl σ k), Ot (ovl σ x) with
  | some ti, .one (.mp id), some key, some f => match ti.k, σ.h[id]? with
   | .map kt _, some (.fm tab) => match T.get kt with
    | some tk => match tJ tk.k key && (zA tk.k tab && !memT tab key) with
     | true => some (true, .tup [], σ.h.set id (.fm (tab ++ [(key, f)])))
     | false => none
    | none => none
   | _, _ => none
  | _, _, _, _ => none
 | .lookup t m k true => match T.get t, ovl σ m, keyOf (ovl σ k) with
  | some ti, .one (.mp id), some key => match ti.k, σ.h[id]? with
   | .map kt et, some (.fm tab) => match T.get kt, T.get et with
    | some tk, some te => match tJ tk.k key && (zA tk.k tab && !te.k.isAgg), te.zls with
     | true, [.val .opq .nilFunc] => some (true, .tup [.inl (.iY key tab), .inl (.val .bool (memT tab key))], σ.h)
     | _, _ => none
    | _, _ => none
   | _, _ => none
  | _, _, _ => none
 | _ => none
section
variable {β : Nat -> Pl} {w : World} {T : Tab} {C : Ctx}
theorem eT {P : Program} {t : TypeId} {d : TypeDesc} {x : MK} {b : Bool} {n : Nat} (hu : P.underlying t = some d) (hx : tJ (TK.of d) x = true) : (Instr.checkKey b (n + 1) t x.v).run P w = .ok () w := by
 have hr : (underlying t).run P w = .ok d w := by simp [underlying, hu]
 simp only [Instr.checkKey, Sem.run_bind, hr, Result.andThen_ok]
 cases d <;> simp only [TK.of, tJ] at hx <;> try (cases x <;> simp at hx)
 all_goals simp [MK.v]
end
end Go.Dec
