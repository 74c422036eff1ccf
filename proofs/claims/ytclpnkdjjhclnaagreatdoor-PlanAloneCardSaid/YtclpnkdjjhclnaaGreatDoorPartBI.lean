/- Part of a proof over this seat: a library of my own, and what it says of this seat. No statement is proved here. -/
import Derived.Test.YtclpnkdjjhclnaaGreatDoorPartBE
namespace Go.Ce
def mG (E : Env) (n lo : Nat) : Nat -> Nat -> Code -> T AV -> W -> Option (T AV × W)
 | 0, _, _, tm, A => some (tm, A)
 | d + 1, k, c, tm, A => match c with
  | .seq a b => match run E (k - 1) n lo .pl a tm A with
   | some (.normal, tm', A') => mG E n lo d (k - 1) b tm' A'
   | _ => none
  | _ => none
def vF : Nat -> Code -> Code
 | 0, c => c
 | d + 1, c => match c with
  | .seq _ b => vF d b
  | _ => c
theorem Ar {E : Env} {n lo : Nat} : ∀ {d k : Nat} {c : Code} {tm : T AV} {A : W} {tm' : T AV} {A' : W}, d <= k -> mG E n lo d k c tm A = some (tm', A') -> run E k n lo .pl c tm A = run E (k - d) n lo .pl (vF d c) tm' A'
 | 0, k, c, tm, A, tm', A', _, h => by
  simp only [mG, Option.some.injEq, Prod.mk.injEq] at h
  obtain ⟨rfl, rfl⟩ := h
  rfl
 | d + 1, k, c, tm, A, tm', A', hk, h => by
  obtain ⟨k, rfl⟩ : ∃ j, k = j + 1 := ⟨k - 1, by omega⟩
  simp only [mG, Nat.add_sub_cancel] at h
  split at h
  ·rename_i a b
   split at h
   ·rename_i tm2 A2 ha
    have := Ar (d := d) (k := k) (by omega) h
    rw [show k + 1 - (d + 1) = k - d by omega]
    show iJ E (run E k) n lo .pl (.seq a b) tm A = run E (k - d) n lo .pl (vF d b) tm' A'
    rw [<- this]
    simp only [iJ, ha]
    rfl
   ·cases h
  ·cases h
def Gb (E : Env) (fn : Func) (r : Option (Ex × T AV × W)) : Option (Out × W) :=
 ob r fun r => match r with
  | (.pan t v, _, A') => some (.pan t v, A')
  | (.normal, tm, A') | (.ret, tm, A') => ob (eF E tm A' fn.results.toList) fun l => some (.ret (nL l), A')
  | _ => none
def codeOf (fn : Func) : Code := fn.body.getD .skip
theorem Jw {E : Env} {k lo f d : Nat} {args : List AV} {A : W} {fn : Func} {tm1 : T AV} {A1 : W} {x : Option Bool}
  (hF : E.F.get f = some fn) (hb : fn.body.isSome = true) (hck : (Nat.ble (len args) fn.ntmps && Nat.blt fn.ntmps big) = true) (hd : d <= k)
  (h1 : mG E fn.ntmps lo d k (codeOf fn) (eU 0 args .nil) A = some (tm1, A1))
  (h2 : gL (Gb E fn (run E (k - d) fn.ntmps lo .pl (vF d (codeOf fn)) tm1 A1)) = x) : gL (aP E (run E k) lo f args A) = x := by
 obtain ⟨c, hc⟩ := Option.isSome_iff_exists.1 hb
 have hcc : codeOf fn = c := by unfold codeOf; rw [hc]; rfl
 rw [hcc] at h1 h2
 rw [<- Ar hd h1] at h2
 rw [<- h2]
 have : aP E (run E k) lo f args A = Gb E fn (run E k fn.ntmps lo .pl c (eU 0 args .nil) A) := by
  unfold aP
  rw [hF]
  show ob fn.body _ = _
  rw [hc]
  show ck (Nat.ble (len args) fn.ntmps && Nat.blt fn.ntmps big) _ = _
  rw [hck]
  unfold Gb
  show ob _ _ = ob _ _
  congr 1
 rw [this]
end Go.Ce
