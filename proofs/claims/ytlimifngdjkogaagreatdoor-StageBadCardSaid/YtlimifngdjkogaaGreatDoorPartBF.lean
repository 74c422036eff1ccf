/- Part of a proof over this seat: a library of my own, and what it says of this seat. No statement is proved here. -/
import Derived.Test.YtlimifngdjkogaaGreatDoorPartBE
namespace Go.Ce
mutual
def AV.ren (m : Nat -> Option Nat) : AV -> Option AV
 | .pt i o => ob (m i) fun j => some (.pt j o)
 | .sl i o l c s e => ob (m i) fun j => some (.sl j o l c s e)
 | .mp _ => none
 | .fn f fs cs => ob (AV.lX m fs) fun fs => ob (AV.lX m cs) fun cs => some (.fn f fs cs)
 | .ic t v => ob (AV.ren m v) fun v => some (.ic t v)
 | .ag l => ob (AV.lX m l) fun l => some (.ag l)
 | .tu l => ob (AV.lX m l) fun l => some (.tu l)
 | v => some v
def AV.lX (m : Nat -> Option Nat) : List AV -> Option (List AV)
 | [] => some []
 | a :: r => ob (AV.ren m a) fun a => ob (AV.lX m r) fun r => some (a :: r)
end
mutual
def AV.ids : AV -> List Nat
 | .pt i _ => [i]
 | .sl i _ _ _ _ _ => [i]
 | .mp i => [i]
 | .fn _ fs cs => AV.rH fs ++ AV.rH cs
 | .ic _ v => AV.ids v
 | .ag l => AV.rH l
 | .tu l => AV.rH l
 | _ => []
def AV.rH : List AV -> List Nat
 | [] => []
 | a :: r => AV.ids a ++ AV.rH r
end
def reach (H : T Blk) (k : Nat) : List Nat -> List Nat -> List Nat :=
 @Nat.rec (fun _ => List Nat -> List Nat -> List Nat) (fun _ seen => seen) (fun _ ih todo seen => match todo with
  | [] => seen
  | i :: r => cnd (kV i seen) (ih r seen) (match H.get i with
   | some (.cells cs _ _ _) => ih (AV.rH cs ++ r) (seen ++ [i])
   | _ => ih r seen)) k
def Env.more (E : Env) (f : FuncId) (g : Gv) : Env := { E with giv := fun k => cnd (Nat.beq k f) (some g) (E.giv k) }
theorem bV.more {E : Env} (hE : bV E) {f : FuncId} {g : Gv} (h : ∀ lo A args v A', g lo A args = some (v, A') -> bD E.P lo f args A (.ret v) A') : bV (E.more f g) where
 I := hE.I
 F := hE.F
 giv := fun k g' hk => by
  simp only [Env.more, cnd] at hk
  split at hk
  ·rename_i hc
   simp only [Option.some.injEq] at hk
   have := Nat.eq_of_beq_eq_true hc
   subst this hk
   exact h
  ·exact hE.giv k g' hk
 tri := hE.tri
 mixed := hE.mixed
end Go.Ce
