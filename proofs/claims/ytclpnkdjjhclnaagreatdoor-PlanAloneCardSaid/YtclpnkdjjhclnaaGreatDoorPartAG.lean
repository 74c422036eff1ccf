/- Part of a proof over this seat: a library of my own, and what it says of this seat. No statement is proved here. -/
import Derived.Test.YtclpnkdjjhclnaaGreatDoorPartAF
import Derived.Lib.ConvBytes
import Derived.Lib.AppendStr
import Derived.Laws.BytesArg
import Derived.Tactics
import Derived.Scope
import Derived.Orders
namespace Go.Dec
open Go.Lib
def dQ (σ : St) (te : Ty) : List (Nat × Operand) -> List te.den -> Option (List te.den)
 | [], xs => some xs
 | (i, x) :: r, xs =>
  match (ovl σ x).leaves with
  | some ls =>
   match fD te ls with
   | some (y, []) => match Nat.blt i xs.length with
    | true => dQ σ te r (xs.set i y)
    | false => none
   | _ => none
  | none => none
def isX (T : Tab) (o : Oper) : Bool :=
 match o.op with
 | .unOp .xor _ _ => true
 | .build t _ => match T.get t with
  | some ti => match ti.k with | .arr .. => true | _ => false
  | none => false
 | .index t _ _ => match T.get t with
  | some ti => match ti.k with | .arr .. => true | _ => false
  | none => false
 | .convert s d _ => match T.get s, T.get d with
  | some ts, some td => match ts.k, td.k with
   | .slice _, .str => true
   | .str, .slice _ => true
   | _, _ => false
  | _, _ => false
 | .field .. => true
 | _ => false
def Ib (ys : List Int) : List UInt8 := ys.map fun n => UInt8.ofNat n.toNat
def mO (T : Tab) (σ : St) (o : Oper) : Option (Bool × V × List Ob) :=
 match o.op with
 | .unOp .xor _ x => match ovl σ x with
  | .one (.val (.int k) n) => some (true, .one (.val (.int k) (tC k .xor (if k.signed then -1 else k.max) n)), σ.h)
  | _ => none
 | .build t parts => match T.get t with
  | some ti => match ti.k with
   | .arr n e => match T.get e, ti.zls with
    | some te, [.val (.arr m ty) xs] => if te.size = ty.size ∧ m = n then
      match dQ σ ty parts.toList xs with
      | some ys => some (true, .agg [.val (.arr m ty) ys], σ.h)
      | none => none
     else none
    | _, _ => none
   | _ => none
  | none => none
 | .index t x i => match T.get t, ovl σ x, fO (ovl σ i) with
  | some ti, .agg [.val (.arr m ty) xs], some (_, j) => match ti.k with
   | .arr n e => match T.get e with
    | some te => if te.size = ty.size ∧ m = n ∧ te.k.isAgg = ty.isAgg then
      match ty.isAgg with
      | true => some (inB j n, .agg (explode ty (tH ty.dflt xs j)), σ.h)
      | false => some (inB j n, .one (.val ty (tH ty.dflt xs j)), σ.h)
     else none
    | none => none
   | _ => none
  | _, _, _ => none
 | .convert s d x => match T.get s, T.get d, ovl σ x with
  | some ts, some td, .one l => match ts.k, td.k with
   | .slice e, .str => match T.get e with
    | some te => match te.k with
     | .int .u8 => match rowsOf σ.h (.int .u8) l with
      | some (c, ys) => some (c, .one (.val .str (Ib ys)), σ.h)
      | none => none
     | _ => none
    | none => none
   | .str, .slice e => match T.get e, l with
    | some te, .val .str s => match te.k with
     | .int .u8 => some (Nat.ble s.length room, .one (.val (.slice (.int .u8)) (yZ s)), σ.h)
     | _ => none
    | _, _ => none
   | _, _ => none
  | _, _, _ => none
 | .field s x f => match T.get s, ovl σ x with
  | some ti, .agg ls => match ti.k with
   | .struct fs => match fs[f]? with
    | some (off, ft) => match T.get ft with
     | some tf => match lI ls off tf.size with
      | some c => match mkV tf.k.isAgg c with
       | some v => some (true, v, σ.h)
       | none => none
      | none => none
     | none => none
    | none => none
   | _ => none
  | _, _ => none
 | _ => none
def dR (T : Tab) (σ : St) (o : Oper) : Option (Bool × V × List Ob) :=
 match isM o with
 | true => stepM T σ o
 | false =>
  match isX T o with
  | true => mO T σ o
  | false => bD T σ o
section
variable {β : Nat -> Pl} {w : World} {T : Tab} {C : Ctx}
end
end Go.Dec
namespace Go.Dec
def chk {ρ : Type} (b : Bool) (r : Option ρ) : Option ρ := match b with | true => r | false => none
def br {ρ : Type} (b : Bool) (x y : Option ρ) : Option ρ := match b with | true => x | false => y
def ob {α ρ : Type} (o : Option α) (k : α -> Option ρ) : Option ρ := match o with | some x => k x | none => none
theorem Ic {ρ : Type} {b : Bool} {x : Option ρ} {r : ρ} (h : chk b x = some r) : b = true ∧ x = some r := by
 cases b
 ·cases h
 ·exact ⟨rfl, h⟩
theorem aA {α ρ : Type} {o : Option α} {k : α -> Option ρ} {r : ρ} (h : ob o k = some r) : ∃ x, o = some x ∧ k x = some r := by
 cases o
 ·cases h
 ·exact ⟨_, rfl, h⟩
inductive Out where
 | ret (v : V)
 | pan (t : TypeId) (v : V)
inductive Ex where
 | normal | exit (id : Nat) | goto (l : Nat) | ret | pan (t : TypeId) (v : V)
def jU (β : Nat -> Pl) (w : World) (N : Nat -> Nat -> Prop) : Out -> Ending -> Prop
 | .ret v, e => ∃ x, e = .returned x ∧ v.Rel β w N x
 | .pan t v, e => ∃ x, e = .panicked [{ v := .iface t x, recovered := false }] ∧ v.Rel β w N x
def bU (β : Nat -> Pl) (w : World) (N : Nat -> Nat -> Prop) : Ex -> Exit -> Prop
 | .normal, x => x = .normal
 | .exit i, x => x = .exit i
 | .goto l, x => x = .goto l
 | .ret, x => x = .ret
 | .pan t v, x => ∃ y, x = .panic [{ v := .iface t y, recovered := false }] ∧ v.Rel β w N y
def lM (β : Nat -> Pl) (w : World) (N : Nat -> Nat -> Prop) (vs : List V) (xs : List Value) : Prop := aN (fun v x => V.Rel β w N v x) vs xs
def kL (P : Program) (f : FuncId) (vs : List V) (h : List Ob) (R : Out -> List Ob -> Prop) : Prop :=
 ∀ (C : Ctx) (β : Nat -> Pl) (w : World) (xs : List Value), C.P = P -> bQ C β h w -> lM β w (C.N β h) vs xs ->
  Calls P f xs.toArray w fun e w' => ∃ out h' β', R out h' ∧ Moves β β' ∧ Keep (C.N β h) w w' ∧ (∀ b j, b < w.heap.size -> C.N β' h' b j -> C.N β h b j) ∧ bQ C β' h' w' ∧ jU β' w' (C.N β' h') out e
theorem kL.mono {P : Program} {f : FuncId} {vs : List V} {h : List Ob} {R R' : Out -> List Ob -> Prop} (hc : kL P f vs h R) (hR : ∀ o k, R o k -> R' o k) : kL P f vs h R' := by
 intro C β w xs hP hs ha
 refine (hc C β w xs hP hs ha).mono ?_
 rintro e w' ⟨out, h', β', k1, k2⟩
 exact ⟨out, h', β', hR _ _ k1, k2⟩
def Lc (P : Program) (f : FuncId) (vs : List V) (h : List Ob) (out : Out) (h' : List Ob) : Prop := kL P f vs h fun o k => o = out ∧ k = h'
def eB (P : Program) (f : FuncId) : Bool :=
 match P.funcs[f]? with
 | some fn => fn.body.isSome && !(fn.name == "runtime.NumGoroutine")
 | none => false
def bI {α : Type} (f : α -> Bool) : List α -> Bool
 | [] => true
 | x :: r => f x && bI f r
def L.isD : L -> Bool
 | .val .. | .eH | .bH | .cK .. => true
 | .clo _ [] => true
 | _ => false
def Me : Sum L (List L) -> Bool
 | .inl l => l.isD
 | .inr ls => bI L.isD ls
def V.isD : V -> Bool
 | .one l => l.isD
 | .agg ls => bI L.isD ls
 | .tup vs => bI Me vs
 | .aO => false
structure PE where
 R : Type
 use : Nat
 run : List V -> List Ob -> Option (Bool × Option R)
 enc : R -> List V -> List Ob -> V × List Ob
structure PE.OK (P : Program) (f : FuncId) (e : PE) : Prop where
 body : eB P f = true
 rel : ∀ vs h y, e.run vs h = some (true, some y) -> Lc P f vs h (.ret (e.enc y vs h).1) (e.enc y vs h).2
 dry : Nat.ble e.use 1 = true -> ∀ vs h h2, bI V.isD vs = true -> e.run vs h = e.run vs h2 ∧ ∀ y, (e.enc y vs h).1 = (e.enc y vs h2).1
 same : Nat.ble e.use 1 = true -> ∀ y vs h, (e.enc y vs h).2 = h
def pos (i : Nat) : List Nat -> Nat -> Option Nat
 | [], _ => none
 | a :: r, n => match Nat.beq a i with
  | true => some n
  | false => pos i r (n + 1)
mutual
def L.ids : L -> List Nat
 | .ptr id _ => [id]
 | .bB id _ => [id]
 | .bY id _ _ _ _ => [id]
 | .bE id _ _ _ => [id]
 | .sl id _ _ _ => [id]
 | .own id _ => [id]
 | .mp id => [id]
 | .clo _ caps => L.jV caps
 | _ => []
def L.jV : List L -> List Nat
 | [] => []
 | l :: ls => l.ids ++ L.jV ls
end
def V.ids : V -> List Nat
 | .one l => l.ids
 | .agg ls => L.jV ls
 | _ => []
def Ob.ids : Ob -> List Nat
 | .box _ ls => L.jV ls
 | .arr .. => []
 | .fm _ => []
def oW (acc : List Nat) : List Nat -> List Nat
 | [] => acc
 | i :: r => match pos i acc 0 with
  | some _ => oW acc r
  | none => oW (acc ++ [i]) r
def qK (h : List Ob) : Nat -> List Nat -> Nat -> List Nat
 | 0, acc, _ => acc
 | n + 1, acc, p =>
  match acc[p]? with
  | none => acc
  | some i => match h[i]? with
   | some o => qK h n (oW acc o.ids) (p + 1)
   | none => qK h n acc (p + 1)
def Ie : List V -> List Nat
 | [] => []
 | v :: vs => v.ids ++ Ie vs
def reach (vs : List V) (h : List Ob) : List Nat := qK h (h.length + 1) (oW [] (Ie vs)) 0
structure Orc (ρ : Type) where
 pure : FuncId -> Option PE
 gen : FuncId -> List V -> List Ob -> (Out -> List Ob -> Option ρ) -> Option ρ
structure tK (P : Program) {ρ : Type} (Γ : Orc ρ) : Prop where
 pure : ∀ f e, Γ.pure f = some e -> e.OK P f
 gen : ∀ f vs h k r, Γ.gen f vs h k = some r -> eB P f = true ∧ kL P f vs h fun out h' => k out h' = some r ∧ ∀ id, id < h.length -> id ∉ reach vs h -> h'[id]? = h[id]?
def Orc.call {ρ : Type} (Γ : Orc ρ) (f : FuncId) (vs : List V) (h : List Ob) (k : Out -> List Ob -> Option ρ) : Option ρ :=
 match Γ.pure f with
 | some e =>
  match e.run vs h with
  | some (c, o) => chk c (ob o fun y => k (.ret (e.enc y vs h).1) (e.enc y vs h).2)
  | none => none
 | none => Γ.gen f vs h k
def Orc.quiet {ρ : Type} (Γ : Orc ρ) : Orc ρ := ⟨Γ.pure, fun _ _ _ _ => none⟩
theorem tK.quiet {P : Program} {ρ : Type} {Γ : Orc ρ} (h : tK P Γ) : tK P Γ.quiet := ⟨h.pure, fun _ _ _ _ _ h => by cases h⟩
theorem tK.call {P : Program} {ρ : Type} {Γ : Orc ρ} (h : tK P Γ) {f : FuncId} {vs : List V} {hp : List Ob} {k : Out -> List Ob -> Option ρ} {r : ρ} (hc : Γ.call f vs hp k = some r) :
  eB P f = true ∧ kL P f vs hp fun out h' => k out h' = some r := by
 unfold Orc.call at hc
 split at hc
 ·rename_i e he
  split at hc
  ·rename_i c o hr
   obtain ⟨rfl, hc⟩ := Ic hc
   obtain ⟨y, rfl, hc⟩ := aA hc
   have hok := h.pure f e he
   refine ⟨hok.body, fun C β w xs hP hs ha => (hok.rel _ _ _ hr C β w xs hP hs ha).mono ?_⟩
   rintro e w' ⟨out, h', β', ⟨rfl, rfl⟩, hh⟩
   exact ⟨_, _, β', hc, hh⟩
  ·cases hc
 ·obtain ⟨h1, h2⟩ := h.gen _ _ _ _ _ hc
  exact ⟨h1, h2.mono fun _ _ h => h.1⟩
def bK (r : List V) (d : Option Tmp) (v : V) : List V :=
 match d with
 | some i => r.set i v
 | none => r
abbrev K (ρ : Type) := Ex -> St -> Option ρ
abbrev mP (ρ : Type) := St -> K ρ -> Option ρ
section ops
variable {ρ : Type} (Γ : Orc ρ) (T : Tab)
def dK (σ : St) (xs : List Operand) : List V := xs.map (ovl σ)
def callee (σ : St) (x : Operand) : Option (FuncId × List V) :=
 match ovl σ x with
 | .one (.val .opq (.func (.func f) first cs)) => if first.size = 0 ∧ cs.size = 0 then some (f, []) else none
 | .one (.clo f cs) => some (f, cs.map .one)
 | _ => none
def Gf (vs : List V) (h : List Ob) (key : MK) (k : Out -> List Ob -> Option ρ) : List (MK × Nat) -> Option ρ
 | [] => none
 | (a, f) :: r => br (MK.beq key a) (Γ.gen f vs h k) (Gf vs h key k r)
def vM (σ : St) (o : Oper) (k : K ρ) : Option ρ :=
 match o.op with
 | .call { callee := .value x, args, .. } =>
  match callee σ x with
  | some (f, cs) => Γ.call f (dK σ args.toList ++ cs) σ.h fun out h' =>
    match out with
    | .ret v => k .normal ⟨bK σ.r o.dst v, h'⟩
    | .pan t v => k (.pan t v) ⟨σ.r, h'⟩
  | none =>
   match ovl σ x with
   | .one (.iY key tab) => Gf Γ (dK σ args.toList) σ.h key (fun out h' =>
     match out with
     | .ret v => k .normal ⟨bK σ.r o.dst v, h'⟩
     | .pan t v => k (.pan t v) ⟨σ.r, h'⟩) tab
   | _ => none
 | .pick c x y =>
  match ovl σ c with
  | .one (.val .bool b) => br b (k .normal ⟨bK σ.r o.dst (ovl σ x), σ.h⟩) (k .normal ⟨bK σ.r o.dst (ovl σ y), σ.h⟩)
  | _ => none
 | _ =>
  match dR T σ o with
  | some (c, v, h') => chk c (k .normal ⟨bK σ.r o.dst v, h'⟩)
  | none => none
def aL (ops : Array Oper) (j : Nat) : Option Nat := (ops[j]?).bind (·.dst)
def mQ (ops : Array Oper) : List Oper -> St -> K ρ -> Option ρ
 | [], σ, k => k .normal σ
 | o :: rest, σ, k =>
  match o.guard with
  | none => vM Γ T σ o fun e σ' => match e with | .normal => mQ ops rest σ' k | e => k e σ'
  | some (j, want) =>
   match aL ops j with
   | some s =>
    match σ.r.getD s .aO with
    | .one (.val .bool b) =>
     br b
      (match want with
       | true => vM Γ T ⟨σ.r.set s (.one (.val .bool true)), σ.h⟩ o fun e σ' => match e with | .normal => mQ ops rest σ' k | e => k e σ'
       | false => mQ ops rest ⟨bK (σ.r.set s (.one (.val .bool true))) o.dst (.tup []), σ.h⟩ k)
      (match want with
       | false => vM Γ T ⟨σ.r.set s (.one (.val .bool false)), σ.h⟩ o fun e σ' => match e with | .normal => mQ ops rest σ' k | e => k e σ'
       | true => mQ ops rest ⟨bK (σ.r.set s (.one (.val .bool false))) o.dst (.tup []), σ.h⟩ k)
    | .tup [] => mQ ops rest ⟨bK σ.r o.dst (.tup []), σ.h⟩ k
    | _ => none
   | none => none
end ops
section sound
variable {ρ : Type} {Γ : Orc ρ} {T : Tab} {C : Ctx}
theorem Sim.put {β : Nat -> Pl} {σ : St} {a : Act} {w : World} (hs : Sim C β σ a w) (d : Option Tmp) {v : V} {x : Value} (hv : v.Rel β w (C.N β σ.h) x) : Sim C β ⟨bK σ.r d v, σ.h⟩ (a.put d x) w := by
 cases d with
 | none => exact ⟨hs.heap, hs.defers, hs.size, hs.reg⟩
 | some i =>
  refine ⟨hs.heap, hs.defers, by simp [bK, Act.put, hs.size], fun j u hu => ?_⟩
  simp only [bK] at hu
  simp only [Act.put, Array.getD_eq_getD_getElem?, Array.getElem?_setIfInBounds]
  by_cases hij : i = j
  ·subst hij
   rcases Nat.lt_or_ge i σ.r.length with hi | hi
   ·rw [List.getElem?_set_self hi] at hu
    simp only [Option.some.injEq] at hu
    subst hu
    rw [if_pos rfl, if_pos (by rw [<- hs.size]; exact hi)]
    exact hv
   ·rw [List.getElem?_eq_none (by simpa using hi)] at hu; cases hu
  ·rw [List.getElem?_set_ne hij] at hu
   rw [if_neg hij]
   have := hs.reg j u hu
   rwa [Array.getD_eq_getD_getElem?] at this
theorem zB {β : Nat -> Pl} {σ : St} {a : Act} {w : World} (hs : Sim C β σ a w) : ∀ xs : List Operand, lM β w (C.N β σ.h) (dK σ xs) (xs.map a.eval)
 | [] => trivial
 | x :: xs => ⟨Bv hs x, zB hs xs⟩
theorem tL {β : Nat -> Pl} {w : World} {N : Nat -> Nat -> Prop} : ∀ {cs : List L} {us : List Value}, L.aM β w N cs us -> lM β w N (cs.map .one) us
 | [], us, h => by simp only [L.aM] at h; subst h; trivial
 | c :: cs, us, h => by
  simp only [L.aM] at h
  obtain ⟨u, r, rfl, h1, h2⟩ := h
  exact ⟨h1, tL h2⟩
theorem zC {P : Program} {f : FuncId} (h : eB P f = true) (args : Array Value) (w : World) : (callFunc f args).run P w = .ok (.enter f args) w := by
 unfold eB at h
 split at h
 ·rename_i fn hf
  simp only [Bool.and_eq_true, Bool.not_eq_true'] at h
  have h1 : fn.body.isNone = false := by cases hb : fn.body <;> simp [hb] at h ⊢
  simp only [callFunc, Sem.run_bind, run_program, Result.andThen_ok, hf, h.2, h1, Bool.false_eq_true, if_false, Sem.run_pure]
 ·cases h
theorem qL {β : Nat -> Pl} {σ : St} {a : Act} {w : World} {o : Oper} {f : FuncId} {cs : List V} {x : Operand} {args : Array Operand} {ats : Array TypeId} {R : Out -> List Ob -> Prop} {next : Act -> World -> Prop} {Q : Exit -> Act -> World -> Prop}
  (ho : o.op = .call { callee := .value x, args := args, argTypes := ats }) (hc : callee σ x = some (f, cs)) (hb : eB C.P f = true) (hcall : kL C.P f (dK σ args.toList ++ cs) σ.h R) (hs : Sim C β σ a w)
  (hn : ∀ v h' β' a' w', R (.ret v) h' -> Sim C β' ⟨bK σ.r o.dst v, h'⟩ a' w' -> next a' w')
  (hq : ∀ t v h' β' w' y, R (.pan t v) h' -> Sim C β' ⟨σ.r, h'⟩ a w' -> v.Rel β' w' (C.N β' h') y -> Q (.panic [{ v := .iface t y, recovered := false }]) a w') : o.wp C.P a w next Q := by
 have hx := Bv hs x
 have : ∃ us, (resolve a.eval { callee := .value x, args, argTypes := ats } o.type).run C.P w = .ok { target := .fn (.func f) us, args := args.map a.eval } w ∧ lM β w (C.N β σ.h) cs us.toList := by
  unfold callee at hc
  split at hc
  ·rename_i f' first cs' hov
   split at hc
   ·rename_i he
    simp only [Option.some.injEq, Prod.mk.injEq] at hc
    obtain ⟨rfl, rfl⟩ := hc
    rw [hov] at hx
    simp only [V.Rel, L.Rel, Ty.Rel, List.cons.injEq, and_true] at hx
    have e1 : first = #[] := Array.eq_empty_of_size_eq_zero he.1
    have e2 : cs' = #[] := Array.eq_empty_of_size_eq_zero he.2
    subst e1 e2
    exact ⟨#[], by simp [resolve, hx.1, Deferred.ofValue], trivial⟩
   ·cases hc
  ·rename_i f' cs' hov
   simp only [Option.some.injEq, Prod.mk.injEq] at hc
   obtain ⟨rfl, rfl⟩ := hc
   rw [hov] at hx
   simp only [V.Rel, L.Rel, List.cons.injEq, and_true] at hx
   obtain ⟨us, hx, hr⟩ := hx
   exact ⟨us.toArray, by simp [resolve, hx, Deferred.ofValue], tL hr⟩
  ·cases hc
 obtain ⟨us, hres, hus⟩ := this
 have hargs : lM β w (C.N β σ.h) (dK σ args.toList ++ cs) (args.map a.eval ++ us).toList := by
  rw [Array.toList_append, Array.toList_map]
  exact aN.append (zB hs _) hus
 have hcl := hcall C β w _ rfl hs.heap hargs
 unfold Oper.wp
 have hrun : (execOp a.eval o).run C.P w = .ok (.enter f (args.map a.eval ++ us)) w := by
  simp only [execOp, ho, Sem.run_bind, hres, Result.andThen_ok, invoke, zC hb]
 rw [hrun, Oper.upon_enter]
 rw [Array.toArray_toList] at hcl
 refine hcl.mono ?_
 rintro e w' ⟨out, h', β', hk, hm, hkp, hN, hh, hout⟩
 have Kc : ∀ (i : Nat) (v : V), σ.r[i]? = some v -> v.Rel β' w' (C.N β' h') (a.tmps.getD i undef) := fun i v hv => (hs.reg i v hv).mono hm hkp hN
 cases out with
 | ret v =>
  obtain ⟨y, rfl, hy⟩ := hout
  have hs' : Sim C β' ⟨σ.r, h'⟩ a w' := ⟨hh, hs.defers, hs.size, Kc⟩
  exact hn v h' β' _ w' hk (hs'.put o.dst hy)
 | pan t v =>
  obtain ⟨y, rfl, hy⟩ := hout
  exact hq t v h' β' w' y hk ⟨hh, hs.defers, hs.size, Kc⟩ hy
end sound
end Go.Dec
