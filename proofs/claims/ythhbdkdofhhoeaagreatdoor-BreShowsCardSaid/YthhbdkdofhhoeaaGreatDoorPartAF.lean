/- Part of a proof over this seat: a library of my own, and what it says of this seat. No statement is proved here. -/
import Derived.Test.YthhbdkdofhhoeaaGreatDoorPartAE
import Derived.LaidEql
import Derived.WalkSpells
namespace Go.Dec
def zOv : Operand -> Bool
 | .const (.pointer none) | .const .nilIface | .const .nilFunc | .const (.slice none 0 0) => true
 | _ => false
def Ze (k : TK) (x : L) (c : Operand) : Option Bool :=
 match k, c, x with
 | .ptr _, .const (.pointer none), .jQ => some true
 | .ptr _, .const (.pointer none), .ptr .. => some false
 | .ptr _, .const (.pointer none), .jD .. => some false
 | .ptr _, .const (.pointer none), .iK .. => some false
 | .iface _, .const .nilIface, .val .err b => some (!b)
 | .func, .const .nilFunc, .clo .. => some false
 | .slice _, .const (.slice none 0 0), .dD => some true
 | _, _, _ => none
def eqV (T : Tab) (xt : TypeId) (a b : List L) : Option Bool :=
 match T.get xt with
 | some ti =>
  match ti.ty with
  | some ty =>
   if ti.eqs && ty.cmp && ty.isAgg then
    match bZ ty a, bZ ty b with
    | some (x, []), some (y, []) => some (ty.beq x y)
    | _, _ => none
   else none
  | none => none
 | none => none
def isEq : BinOp -> Bool
 | .eql | .neq => true
 | _ => false
def sgn (op : BinOp) (b : Bool) : Bool :=
 match op with
 | .neq => !b
 | _ => b
def Ou (T : Tab) (σ : St) (op : BinOp) (xt : TypeId) (x y : Operand) : Option (Bool × V) :=
 if isEq op && zOv y then
  match ovl σ x, T.get xt with
  | .one l, some ti =>
   match Ze ti.k l y with
   | some b => some (true, .one (.val .bool (sgn op b)))
   | none => none
  | _, _ => none
 else
  match ovl σ x, ovl σ y with
  | .one a, .one b =>
   match a, b with
   | .val .bool p, .val .bool q =>
    match T.get xt with
    | some ti => match ti.k with
     | .bool => match Yg op p q with
      | some (c, r) => some (c, .one r)
      | none => none
     | _ => none
    | none => none
   | a, b => match bin op a b with
    | some (c, r) => some (c, .one r)
    | none => none
  | .agg a, .agg b =>
   if isEq op then
    match eqV T xt a b with
    | some r => some (true, .one (.val .bool (sgn op r)))
    | none => none
   else none
  | _, _ => none
def wQ (T : Tab) (σ : St) (s d : TypeId) (x : Operand) : Option (Bool × V) :=
 match T.get s, T.get d, ovl σ x with
 | some ts, some td, .one l =>
  match td.k, ts.k, l with
  | .int k, .int _, .val (.int _) n => some (true, .one (.val (.int k) (k.wrap n)))
  | .str, .str, .val .str s => some (true, .one (.val .str s))
  | _, _, _ => none
 | _, _, _ => none
def vals (σ : St) : List (Nat × Operand) -> List (Nat × V)
 | [] => []
 | (i, x) :: r => (i, ovl σ x) :: vals σ r
def xE (T : Tab) (σ : St) (t : TypeId) (parts : List (Nat × Operand)) : Option (Bool × V) :=
 match T.get t with
 | some ti =>
  match ti.k with
  | .struct fs =>
   if fs.all fun p => (T.get p.2).isSome then
    match build T fs ti.zls (vals σ parts) with
    | some ls => some (true, .agg ls)
    | none => none
   else none
  | _ => none
 | none => none
def elems (σ : St) (te : Ty) : Nat -> List (Nat × Operand) -> Option (List te.den)
 | _, [] => some []
 | k, (i, x) :: r =>
  if Nat.beq i k then
   match (ovl σ x).leaves with
   | some ls =>
    match bZ te ls, elems σ te (k + 1) r with
    | some (y, []), some ys => some (y :: ys)
    | _, _ => none
   | none => none
  else none
def elemTy (T : Tab) (t : TypeId) : Option (TypeId × Ty × TI) :=
 match T.get t with
 | some ts =>
  match ts.k with
  | .slice e =>
   match T.get e with
   | some ti =>
    match ti.ty with
    | some te => if Nat.beq ti.size te.size && Nat.ble 1 te.size && Nat.ble 1 ti.bytes then some (e, te, ti) else none
    | none => none
   | none => none
  | _ => none
 | none => none
def Ov (T : Tab) (σ : St) (t : TypeId) (x : Operand) : Option (Bool × V) :=
 match T.get t, ovl σ x with
 | some ti, .one l =>
  match ti.k with
  | .arr n _ => some (true, .one (.val (.int .i64) (n : Int)))
  | .str => match l with
   | .val .str s => some (true, .one (.val (.int .i64) (s.length : Int)))
   | _ => none
  | .slice _ => match zMk σ.h (l.view σ.h) with
   | some (c, n) => some (c, .one (.val (.int .i64) n))
   | none => none
  | _ => none
 | _, _ => none
def vO (T : Tab) (σ : St) (t : TypeId) (s x : Operand) : Option (Bool × V × List Ob) :=
 match elemTy T t, ovl σ s, ovl σ x with
 | some (e, te, ti), .one ls, .one lx =>
  match rowsOf σ.h te lx with
  | some (c, ys) =>
   match ls with
   | .dD => some (c && Nat.ble (ys.length * ti.bytes) room, .one (.own σ.h.length 0), σ.h ++ [.arr e te 0 ys true])
   | .own id ver =>
    match σ.h[id]? with
    | some (.arr e' t' v rows true) => if h : t' = te ∧ e' = e then
      some (c && (Nat.beq v ver && Nat.ble ((rows.length + ys.length) * ti.bytes) room), .one (.own id (ver + 1)), σ.h.set id (.arr e te (ver + 1) ((h.1 ▸ rows) ++ ys) true))
     else none
    | _ => none
   | .sl id ver off len =>
    match σ.h[id]? with
    | some (.arr e' t' v rows true) => if h : t' = te ∧ e' = e then
      some (c && (Nat.beq v ver && (Nat.beq off 0 && (Nat.ble len rows.length && Nat.ble ((len + ys.length) * ti.bytes) room))), .one (.own id (ver + 1)), σ.h.set id (.arr e te (ver + 1) ((h.1 ▸ rows).take len ++ ys) true))
     else none
    | _ => none
   | _ => none
  | none => none
 | _, _, _ => none
def aT (s : List UInt8) : List Int := s.map fun b => (b.toNat : Int)
def Du (T : Tab) (σ : St) (t t' : TypeId) (s x : Operand) : Option (Bool × V × List Ob) :=
 match elemTy T t, T.get t', ovl σ s, ovl σ x with
 | some (e, _, ti), some tx, .one (.own id ver), .one (.val .str u) =>
  match tx.k, σ.h[id]? with
  | .str, some (.arr e' (.int .u8) v rows true) =>
   some (Nat.beq e' e && (Nat.beq ti.size 1 && (Nat.beq v ver && Nat.ble ((rows.length + u.length) * ti.bytes) room)), .one (.own id (ver + 1)), σ.h.set id (.arr e' (.int .u8) (ver + 1) (rows ++ aT u) true))
  | _, _ => none
 | _, _, _, _ => none
def dZ (T : Tab) (σ : St) (o : Oper) : Option (Bool × V × List Ob) :=
 match o.op with
 | .move x => some (true, ovl σ x, σ.h)
 | .assign x => some (true, ovl σ x, σ.h)
 | .unOp op _ x =>
  match ovl σ x with
  | .one l => match un op l with
   | some (c, r) => some (c, .one r, σ.h)
   | none => none
  | _ => none
 | .binOp op xt x y _ => match Ou T σ op xt x y with
  | some (c, v) => some (c, v, σ.h)
  | none => none
 | .convert s d x => match wQ T σ s d x with
  | some (c, v) => some (c, v, σ.h)
  | none => none
 | .fieldAddr s x f =>
  match T.get s, ovl σ x with
  | some ti, .one l =>
   match ti.k with
   | .struct fs =>
    match fs[f]? with
    | some (off, ft) =>
     match T.get ft with
     | some tf => if Nat.ble 1 tf.size then
       match zR σ.h l off with
       | some (c, r) => some (c, .one r, σ.h)
       | none => none
      else none
     | none => none
    | none => none
   | _ => none
  | _, _ => none
 | .indexAddr t x i =>
  match T.get t, ovl σ x, oI (ovl σ i) with
  | some ti, .one l, some (_, n) =>
   match Dr T σ.h ti.k (l.view σ.h) n with
   | some (c, r) => some (c, .one r, σ.h)
   | none => none
  | _, _, _ => none
 | .index t x i =>
  match T.get t, oI (ovl σ i) with
  | some ti, some (_, n) =>
   match ti.k with
   | .str => match idx (ovl σ x) n with
    | some (c, v) => some (c, v, σ.h)
    | none => none
   | _ => none
  | _, _ => none
 | .slice t x lo hi none =>
  match T.get t, ovl σ x, lK σ lo, lK σ hi with
  | some ti, .one l, some l0, some h0 =>
   match slice ti.k (l.view σ.h) l0 h0 σ.h with
   | some (c, r) =>
    match ti.k with
    | .slice e =>
     match T.get e with
     | some te =>
      match l.view σ.h with
      | .val (.slice a) _ => if Nat.beq a.size te.size then some (c, .one r, σ.h) else none
      | .sl id _ _ _ =>
       match σ.h[id]? with
       | some (.arr _ a _ _ _) => if Nat.beq a.size te.size then some (c, .one r, σ.h) else none
       | _ => none
      | _ => none
     | none => none
    | .str => some (c, .one r, σ.h)
    | _ => none
   | none => none
  | _, _, _, _ => none
 | .build t parts => match xE T σ t parts.toList with
  | some (c, v) => some (c, v, σ.h)
  | none => none
 | .extract x i => match ext (ovl σ x) i with
  | some v => some (true, v, σ.h)
  | none => none
 | .load t x =>
  match ovl σ x with
  | .one l => match loadAt T σ.h t l with
   | some (c, v) => some (c, v, σ.h)
   | none => none
  | _ => none
 | .store t x y =>
  match ovl σ x with
  | .one l => match storeAt T σ.h t l (ovl σ y) with
   | some (c, h) => some (c, .bB, h)
   | none => none
  | _ => none
 | .nilCheck x =>
  match ovl σ x with
  | .one (.ptr id off) => some (true, .one (.ptr id off), σ.h)
  | .one (.jD id off es i sub) => some (true, .one (.jD id off es i sub), σ.h)
  | .one (.iK t y off) => some (true, .one (.iK t y off), σ.h)
  | .one (.clo f cs) => some (true, .one (.clo f cs), σ.h)
  | .one (.val .opq (.func (.func f) a b)) => some (true, .one (.val .opq (.func (.func f) a b)), σ.h)
  | _ => none
 | .makeFunc (.func f) first cs =>
  if first.size = 0 then
   match caps σ cs.toList with
   | some ls => some (true, .one (.clo f ls), σ.h)
   | none => none
  else none
 | .box e x =>
  match (ovl σ x).leaves with
  | some ls => some (true, .one (.ptr σ.h.length 0), σ.h ++ [.box e ls])
  | none => none
 | .alloc e =>
  match T.get e with
  | some ti => some (true, .one (.ptr σ.h.length 0), σ.h ++ [.box e ti.zls])
  | none => none
 | .buildSlice t n parts =>
  match elemTy T t with
  | some (e, te, _) =>
   if Nat.beq n parts.size && Nat.ble (n * te.size) 16777216 then
    match elems σ te 0 parts.toList with
    | some ys => some (true, .one (.own σ.h.length 0), σ.h ++ [.arr e te 0 ys true])
    | none => none
   else none
  | none => none
 | .makeSlice t l c =>
  match elemTy T t, oI (ovl σ l), oI (ovl σ c) with
  | some (e, te, ti), some (.i64, n), some (.i64, m) =>
   match bZ te ti.zls with
   | some (z, []) => some (decide (0 <= n) && (decide (n = m) && Nat.ble (n.toNat * ti.bytes) room), .one (.own σ.h.length 0), σ.h ++ [.arr e te 0 (List.replicate n.toNat z) true])
   | _ => none
  | _, _, _ => none
 | .call { callee := .builtin b, args, argTypes } =>
  match b, args.toList, argTypes.toList with
  | .len, [x], [t] => match Ov T σ t x with
   | some (c, v) => some (c, v, σ.h)
   | none => none
  | .append, [s, x], [t, t'] => if Nat.beq t t' then vO T σ t s x else Du T σ t t' s x
  | .min, [x, y], _ =>
   match oI (ovl σ x), oI (ovl σ y) with
   | some (k, a), some (_, b) => some (true, .one (.val (.int k) (if b < a then b else a)), σ.h)
   | _, _ => none
  | .max, [x, y], _ =>
   match oI (ovl σ x), oI (ovl σ y) with
   | some (k, a), some (_, b) => some (true, .one (.val (.int k) (if b > a then b else a)), σ.h)
   | _, _ => none
  | _, _, _ => none
 | _ => none
end Go.Dec
namespace Go.Dec
section
variable {β : Nat -> Pl} {w : World} {T : Tab} {C : Ctx}
theorem iT {N : Nat -> Prop} {v : V} {k : IntKind} {n : Int} {x : Value} (h : oI v = some (k, n)) (hr : v.Rel β w N x) : x = .int k n := by
 unfold oI at h
 split at h
 ·simp only [Option.some.injEq, Prod.mk.injEq] at h
  obtain ⟨rfl, rfl⟩ := h
  simp only [V.Rel, L.Rel, Ty.Rel, List.cons.injEq, and_true] at hr
  exact hr
 ·cases h
theorem zOw {N : Nat -> Prop} {op : UnOp} {l r : L} {x : Value} (h : un op l = some (true, r)) (hr : l.Rel β w N [x]) : ∃ y, (Op.unary op x).run C.P w = .ok y w ∧ r.Rel β w N [y] := by
 unfold un at h
 split at h
 ·simp only [Option.some.injEq, Prod.mk.injEq, true_and] at h
  subst h
  simp only [L.Rel, Ty.Rel, List.cons.injEq, and_true] at hr ⊢
  subst hr
  exact ⟨_, rfl, rfl⟩
 ·simp only [Option.some.injEq, Prod.mk.injEq, true_and] at h
  subst h
  simp only [L.Rel, Ty.Rel, List.cons.injEq, and_true] at hr ⊢
  subst hr
  exact ⟨_, rfl, rfl⟩
 ·cases h
theorem fD {op : BinOp} {t : TypeId} {x y : Operand} {a b : Value} (h1 : a ≠ .nilIface ∨ b ≠ .nilIface) (h2 : (∀ c, a ≠ .agg c) ∨ (∀ c, b ≠ .agg c)) : (eqGuard op t x y a b).run C.P w = .ok () w := by
 unfold eqGuard
 cases op <;> simp only [Bool.not_true, Bool.not_false, Bool.false_eq_true, if_false, if_true, Sem.run_pure] <;> try rfl
 all_goals
  split
  ·simp at h1
  ·rename_i c d
   rcases h2 with h2 | h2
   ·exact absurd rfl (h2 c)
   ·exact absurd rfl (h2 d)
  ·rfl
theorem lM {N : Nat -> Prop} {ty : Ty} {ls : List L} {x : ty.den} {cs : List Value} (h : bZ ty ls = some (x, [])) (hr : aD β w N ls cs) : ty.Rel w N x cs := by
 obtain ⟨c1, c2, e, h1, h2⟩ := oL h hr
 simp only [aD] at h2
 subst h2
 rw [List.append_nil] at e
 subst e
 exact h1
theorem zNh {N : Nat -> Prop} {xt : TypeId} {a b : List L} {r : Bool} {ca cb : List Value} {op : BinOp} {x y : Operand} (hT : bI C.P T) (h : eqV T xt a b = some r) (hop : isEq op = true) (ha : aD β w N a ca) (hb : aD β w N b cb) :
  (eqGuard op xt x y (.agg ca.toArray) (.agg cb.toArray)).run C.P w = .ok () w ∧ (binOp op xt (.agg ca.toArray) (.agg cb.toArray)).run C.P w = .ok (.bool (sgn op r)) w := by
 unfold eqV at h
 split at h
 ·rename_i ti hti
  split at h
  ·rename_i ty hty
   split at h
   ·rename_i hc
    simp only [Bool.and_eq_true] at hc
    obtain ⟨⟨h1, h2⟩, h3⟩ := hc
    split at h
    ·rename_i p q hp hq
     simp only [Option.some.injEq] at h
     subst h
     have hok := hT _ _ hti
     obtain ⟨hg, he⟩ := hok.eqs h1
     have hrp := lM hp ha
     have hrq := lM hq hb
     have hrun := Iu (P := C.P) (w := w) (N := N) 12 xt ty p q ca cb 10000 (by omega) (hok.ty.trans hty) he h2 hrp hrq
     simp only [valOf, h3, if_true] at hrun
     refine ⟨run_eqGuard_agg w op xt x y _ _ hg, ?_⟩
     cases op <;> simp only [isEq, Bool.false_eq_true] at hop
     ·rw [run_eql_struct, hrun]; rfl
     ·rw [run_neq_struct, hrun]; rfl
    ·cases h
   ·cases h
  ·cases h
 ·cases h
theorem pK {xt : TypeId} {u v : Value} {r : Bool} (d : Nat) (h : (xt ∈ ([] : List Nat)) ∨ (∃ e, C.P.underlying xt = some (.pointer e) ∧ ((u = .pointer none ∧ v = .pointer none ∧ r = true) ∨ (∃ a, u = .pointer (some a) ∧ v = .pointer none ∧ r = false))) ∨
      (∃ ms, C.P.underlying xt = some (.interface ms) ∧ ((u = .nilIface ∧ v = .nilIface ∧ r = true) ∨ (∃ t x, u = .iface t x ∧ v = .nilIface ∧ r = false))) ∨
      (∃ ps rs b, C.P.underlying xt = some (.func ps rs b) ∧ ∃ f x y, u = .func f x y ∧ v = .nilFunc ∧ r = false) ∨
      (∃ e, C.P.underlying xt = some (.slice e) ∧ u = .slice none 0 0 ∧ v = .slice none 0 0 ∧ r = true)) : (Op.equalIn (d + 1) xt u v).run C.P w = .ok r w := by
  rcases h with h | ⟨e, hu, ⟨rfl, rfl, rfl⟩ | ⟨a, rfl, rfl, rfl⟩⟩ | ⟨ms, hu, ⟨rfl, rfl, rfl⟩ | ⟨t, x, rfl, rfl, rfl⟩⟩ | ⟨ps, rs, b, hu, f, x, y, rfl, rfl, rfl⟩ | ⟨e, hu, rfl, rfl, rfl⟩
  · cases h
  all_goals simp only [Op.equalIn, Sem.run_bind, run_underlying hu, Result.andThen_ok, Sem.run_pure, Option.isNone_none]
theorem pO {xt : TypeId} {u v : Value} {r : Bool} {op : BinOp} {x y : Operand} (hop : isEq op = true) (hg : (eqGuard op xt x y u v).run C.P w = .ok () w) (hs : (∃ a b, u = .pointer a ∧ v = .pointer b) ∨ (v = .nilIface) ∨ (v = .nilFunc) ∨ (∃ a b c d e f, u = .slice a b c ∧ v = .slice d e f))
  (h : ∀ d, (Op.equalIn (d + 1) xt u v).run C.P w = .ok r w) : ((do eqGuard op xt x y u v; binOp op xt u v : Sem Value)).run C.P w = .ok (.bool (sgn op r)) w := by
 rw [Sem.run_bind, hg, Result.andThen_ok]
 have h' : (Op.equal xt u v).run C.P w = .ok r w := h 9999
 cases op <;> simp only [isEq, Bool.false_eq_true] at hop
 all_goals
  rcases hs with ⟨a, b, rfl, rfl⟩ | rfl | rfl | ⟨a, b, c, d, e, f, rfl, rfl⟩
  ·simp only [binOp, Sem.run_bind, h', Result.andThen_ok, Sem.run_pure, sgn]
  ·cases u <;> simp only [binOp, Sem.run_bind, h', Result.andThen_ok, Sem.run_pure, sgn]
  ·cases u <;> simp only [binOp, Sem.run_bind, h', Result.andThen_ok, Sem.run_pure, sgn]
  ·simp only [binOp, Sem.run_bind, h', Result.andThen_ok, Sem.run_pure, sgn]
theorem zHr {N : Nat -> Prop} {xt : TypeId} {ti : TI} {l : L} {x y : Operand} {ρ : Operand -> Value} {op : BinOp} {b : Bool} (hT : bI C.P T) (hti : T.get xt = some ti) (h : Ze ti.k l y = some b) (hop : isEq op = true) (hr : l.Rel β w N [ρ x]) (hc : ∀ v, ρ (.const v) = v) :
  ((do eqGuard op xt x y (ρ x) (ρ y); binOp op xt (ρ x) (ρ y) : Sem Value)).run C.P w = .ok (.bool (sgn op b)) w := by
 have hok := hT _ _ hti
 unfold Ze at h
 split at h <;> simp only [Option.some.injEq, reduceCtorEq] at h <;> subst h
 ·rename_i e _ hk
  simp only [L.Rel, List.cons.injEq, and_true] at hr
  rw [hr, hc]
  exact pO hop (fD (.inl (by simp)) (.inl (by simp))) (.inl ⟨_, _, rfl, rfl⟩) fun d => pK d (.inr (.inl ⟨_, hok.ptr hk, .inl ⟨rfl, rfl, rfl⟩⟩))
 ·rename_i e id off hk
  simp only [L.Rel, List.cons.injEq, and_true] at hr
  obtain ⟨_, _, b, _, hr⟩ := hr
  rw [hr, hc]
  exact pO hop (fD (.inl (by simp)) (.inl (by simp))) (.inl ⟨_, _, rfl, rfl⟩) fun d => pK d (.inr (.inl ⟨_, hok.ptr hk, .inr ⟨_, rfl, rfl, rfl⟩⟩))
 ·rename_i e id off es i sub hk
  simp only [L.Rel, List.cons.injEq, and_true] at hr
  obtain ⟨_, _, b, _, hr⟩ := hr
  rw [hr, hc]
  exact pO hop (fD (.inl (by simp)) (.inl (by simp))) (.inl ⟨_, _, rfl, rfl⟩) fun d => pK d (.inr (.inl ⟨_, hok.ptr hk, .inr ⟨_, rfl, rfl, rfl⟩⟩))
 ·rename_i e t x off hk
  simp only [L.Rel, List.cons.injEq, and_true] at hr
  obtain ⟨c, hr, b, o, cs, rfl, _⟩ := hr
  rw [hr, hc]
  exact pO hop (fD (.inl (by simp)) (.inl (by simp))) (.inl ⟨_, _, rfl, rfl⟩) fun d => pK d (.inr (.inl ⟨_, hok.ptr hk, .inr ⟨_, rfl, rfl, rfl⟩⟩))
 ·rename_i e bb hk
  simp only [L.Rel, Ty.Rel, List.cons.injEq, and_true] at hr
  obtain ⟨v, hr, hv⟩ := hr
  obtain ⟨ms, hu⟩ := hok.iface hk
  rcases hv with ⟨rfl, t, x, rfl⟩ | ⟨rfl, rfl⟩
  ·rw [hr, hc]
   exact pO hop (fD (.inl (by simp)) (.inl (by simp))) (.inr (.inl rfl)) fun d => pK d (.inr (.inr (.inl ⟨_, hu, .inr ⟨_, _, rfl, rfl, rfl⟩⟩)))
  ·rw [hr, hc]
   exact pO hop (by cases op <;> simp [isEq] at hop <;> simp [eqGuard]) (.inr (.inl rfl)) fun d => pK d (.inr (.inr (.inl ⟨_, hu, .inl ⟨rfl, rfl, rfl⟩⟩)))
 ·rename_i f cs hk
  simp only [L.Rel, List.cons.injEq, and_true] at hr
  obtain ⟨us, hr, _⟩ := hr
  obtain ⟨d, hd, hk'⟩ := hok.und
  rw [hk] at hk'
  cases d <;> simp only [TK.of, reduceCtorEq] at hk'
  rw [hr, hc]
  exact pO hop (fD (.inl (by simp)) (.inl (by simp))) (.inr (.inr (.inl rfl))) fun d => pK d (.inr (.inr (.inr (.inl ⟨_, _, _, hd, _, _, _, rfl, rfl, rfl⟩))))
 ·rename_i e hk
  simp only [L.Rel, List.cons.injEq, and_true] at hr
  rw [hr, hc]
  exact pO hop (fD (.inl (by simp)) (.inl (by simp))) (.inr (.inr (.inr ⟨_, _, _, _, _, _, rfl, rfl⟩))) fun d => pK d (.inr (.inr (.inr (.inr ⟨_, hok.slice hk, rfl, rfl, rfl⟩))))
theorem zNi {N : Nat -> Prop} {op : BinOp} {xt : TypeId} {x y : Operand} {a b r : L} {u v : Value} (hnb : ∀ p q, ¬ (a = .val .bool p ∧ b = .val .bool q)) (h : bin op a b = some (true, r)) (ha : a.Rel β w N [u]) (hb : b.Rel β w N [v]) :
  ∃ z, ((do eqGuard op xt x y u v; binOp op xt u v : Sem Value)).run C.P w = .ok z w ∧ r.Rel β w N [z] := by
 unfold bin at h
 split at h
 ·simp only [L.Rel, Ty.Rel, List.cons.injEq, and_true] at ha hb
  subst ha hb
  rw [Sem.run_bind, fD (.inl (by simp)) (.inl (by simp)), Result.andThen_ok]
  split at h
  ·exact zEo xt h
  ·rename_i hs
   split at h
   ·rename_i hk
    subst hk
    exact zJw xt (by simpa using hs) h
   ·cases h
 ·simp only [L.Rel, Ty.Rel, List.cons.injEq, and_true] at ha hb
  subst ha hb
  rw [Sem.run_bind, fD (.inl (by simp)) (.inl (by simp)), Result.andThen_ok]
  exact zJx xt h
 ·rename_i p q
  exact absurd ⟨rfl, rfl⟩ (hnb p q)
 ·cases h
theorem zJz {σ : St} {a : Act} {op : BinOp} {xt : TypeId} {x y : Operand} {v : V} (hT : bI C.P T) (hs : Sim C β σ a w) (h : Ou T σ op xt x y = some (true, v)) :
  ∃ z, ((do eqGuard op xt x y (a.eval x) (a.eval y); binOp op xt (a.eval x) (a.eval y) : Sem Value)).run C.P w = .ok z w ∧ v.Rel β w (C.N β σ.h) z := by
 have hx := aY hs x
 have hy := aY hs y
 unfold Ou at h
 split at h
 ·rename_i hc
  simp only [Bool.and_eq_true] at hc
  split at h
  ·rename_i l ti hl hti
   split at h
   ·rename_i b hb
    simp only [Option.some.injEq, Prod.mk.injEq, true_and] at h
    subst h
    rw [hl] at hx
    exact ⟨_, zHr (N := C.N β σ.h) (ρ := a.eval) hT hti hb hc.1 hx (fun _ => rfl), by simp only [V.Rel, L.Rel, Ty.Rel]⟩
   ·cases h
  ·cases h
 ·split at h
  ·rename_i p q hp hq
   rw [hp] at hx
   rw [hq] at hy
   split at h
   ·rename_i p q _
    split at h
    ·rename_i ti hti
     split at h
     ·rename_i hk
      split at h
      ·rename_i c r hb
       simp only [Option.some.injEq, Prod.mk.injEq] at h
       obtain ⟨rfl, rfl⟩ := h
       simp only [V.Rel, L.Rel, Ty.Rel, List.cons.injEq, and_true] at hx hy
       rw [hx, hy, Sem.run_bind, fD (.inl (by simp)) (.inl (by simp)), Result.andThen_ok]
       exact zHn xt ((hT _ _ hti).bool hk) hb
      ·cases h
     ·cases h
    ·cases h
   ·rename_i a1 b1 hnb
    split at h
    ·rename_i c r hb
     simp only [Option.some.injEq, Prod.mk.injEq] at h
     obtain ⟨rfl, rfl⟩ := h
     exact zNi (N := C.N β σ.h) (fun p q hpq => hnb p q hpq.1 hpq.2) hb hx hy
    ·cases h
  ·rename_i p q hp hq
   rw [hp] at hx
   rw [hq] at hy
   split at h
   ·rename_i hop
    split at h
    ·rename_i r hr
     simp only [Option.some.injEq, Prod.mk.injEq, true_and] at h
     subst h
     obtain ⟨ca, hca, hra⟩ := hx
     obtain ⟨cb, hcb, hrb⟩ := hy
     rw [hca, hcb]
     obtain ⟨h1, h2⟩ := zNh (x := x) (y := y) hT hr hop hra hrb
     exact ⟨_, by rw [Sem.run_bind, h1, Result.andThen_ok, h2], by simp only [V.Rel, L.Rel, Ty.Rel]⟩
    ·cases h
   ·cases h
  ·cases h
theorem zHs {σ : St} {a : Act} {s d : TypeId} {x : Operand} {v : V} (hT : bI C.P T) (hs : Sim C β σ a w) (h : wQ T σ s d x = some (true, v)) :
  ∃ z, (convert s d (a.eval x)).run C.P w = .ok z w ∧ v.Rel β w (C.N β σ.h) z := by
 have hx := aY hs x
 unfold wQ at h
 split at h
 ·rename_i ts td l hts htd hl
  rw [hl] at hx
  split at h
  ·rename_i k ks kn n hkd hks
   simp only [Option.some.injEq, Prod.mk.injEq, true_and] at h
   subst h
   simp only [V.Rel, L.Rel, Ty.Rel, List.cons.injEq, and_true] at hx
   rw [hx]
   refine ⟨.int k (k.wrap n), ?_, by simp only [V.Rel, L.Rel, Ty.Rel]⟩
   simp only [convert, Sem.run_bind, run_underlying ((hT _ _ hts).int hks), run_underlying ((hT _ _ htd).int hkd), Result.andThen_ok, Conv.intToInt, Sem.run_pure]
  ·rename_i s0 hkd hks
   simp only [Option.some.injEq, Prod.mk.injEq, true_and] at h
   subst h
   simp only [V.Rel, L.Rel, Ty.Rel, List.cons.injEq, and_true] at hx
   rw [hx]
   refine ⟨.string ⟨s0.toArray⟩, ?_, by simp only [V.Rel, L.Rel, Ty.Rel]⟩
   simp only [convert, Sem.run_bind, run_underlying ((hT _ _ hts).str hks), run_underlying ((hT _ _ htd).str hkd), Result.andThen_ok, Sem.run_pure]
  ·cases h
 ·cases h
theorem Iw (places : Nat -> Option (Nat × Nat)) (cs : Array Value) (i off size : Nat) (v : Value) (rest : List (Nat × Value)) (hp : places i = some (off, size)) (hsz : v.cells.size = size) (hfit : off + size <= cs.size) :
  Instr.fill places cs ((i, v) :: rest) = Instr.fill places (cs.toList.take off ++ v.cells.toList ++ cs.toList.drop (off + size)).toArray rest := by
 simp only [Instr.fill, hp]
 rw [if_neg (by simp only [Bool.or_eq_true, decide_eq_true_eq, not_or]; constructor <;> omega)]
 congr 1
 have key : ∀ (vs : List Value) (k : Nat) (cs : Array Value), off + k + vs.length <= cs.size ->
   (vs.zipIdx k).foldl (fun (cs : Array Value) (p : Value × Nat) => cs.setIfInBounds (off + p.2) p.1) cs = (cs.toList.take (off + k) ++ vs ++ cs.toList.drop (off + k + vs.length)).toArray := by
  intro vs
  induction vs with
  | nil => intro k cs _; simp
  | cons v vs ih =>
   intro k cs hk
   simp only [List.zipIdx_cons, List.foldl_cons]
   rw [ih (k + 1) _ (by simp at hk ⊢; omega)]
   have e := list_seg_step cs.toList (off + k) v vs (by simp at hk ⊢; omega)
   congr 1
   simpa [Array.toList_setIfInBounds, Nat.add_assoc] using e
 rw [<- Array.foldl_toList]
 have := key v.cells.toList 0 cs (by simp; omega)
 simp only [Nat.add_zero, Array.length_toList, hsz] at this
 rw [<- this]
 simp [Array.toList_zipIdx]
theorem Qw {N : Nat -> Prop} {fs : List (Nat × TypeId)} {places : Nat -> Option (Nat × Nat)} (hT : bI C.P T) (hpl : ∀ i off ft ti, fs[i]? = some (off, ft) -> T.get ft = some ti -> places i = some (off, ti.size)) :
  ∀ (parts : List (Nat × V)) (vs : List (Nat × Value)) (ls ls' : List L) (cs : Array Value), build T fs ls parts = some ls' -> aD β w N ls cs.toList -> aS (fun (p : Nat × V) (q : Nat × Value) => p.1 = q.1 ∧ p.2.Rel β w N q.2) parts vs ->
   ∃ cs' : Array Value, Instr.fill places cs vs = some cs' ∧ aD β w N ls' cs'.toList
 | [], [], ls, ls', cs, h, hr, _ => by
  simp only [build, Option.some.injEq] at h
  subst h
  exact ⟨cs, rfl, hr⟩
 | (i, v) :: parts, (j, x) :: vs, ls, ls', cs, h, hr, ha => by
  obtain ⟨⟨e, hv⟩, ha⟩ := ha
  simp only at e
  subst e
  simp only [build] at h
  split at h
  ·rename_i off ft new hf hn
   split at h
   ·rename_i ti hti
    split at h
    ·rename_i hsz
     split at h
     ·rename_i ls1 hset
      have hrx := V.uD hn hv
      obtain ⟨hr1, hle⟩ := Io hset hr hrx
      have hxs : x.cells.size = ti.size := by rw [<- hsz, <- hrx.length]; simp
      have hxl : x.cells.toList.length = ti.size := by simpa using hxs
      rw [hxl] at hr1 hle
      have hfit : off + ti.size <= cs.size := by simpa using hle
      rw [Iw places cs i off ti.size x vs (hpl i off ft ti hf hti) hxs hfit]
      exact Qw hT hpl parts vs ls1 ls' _ h (by simpa [List.append_assoc] using hr1) ha
     ·cases h
    ·cases h
   ·cases h
  ·cases h
 | [], _ :: _, _, _, _, _, _, ha => ha.elim
 | _ :: _, [], _, _, _, _, _, ha => ha.elim
theorem Zf {σ : St} {a : Act} (hs : Sim C β σ a w) : ∀ parts : List (Nat × Operand), aS (fun (p : Nat × V) (q : Nat × Value) => p.1 = q.1 ∧ p.2.Rel β w (C.N β σ.h) q.2) (vals σ parts) (parts.map fun p => (p.1, a.eval p.2))
 | [] => trivial
 | (_i, x) :: r => ⟨⟨rfl, aY hs x⟩, Zf hs r⟩
theorem zEu {σ : St} {a : Act} {t : TypeId} {parts : Array (Nat × Operand)} {v : V} (hT : bI C.P T) (hs : Sim C β σ a w) (h : xE T σ t parts.toList = some (true, v)) :
  ∃ z, (Instr.build t (parts.map fun p => (p.1, a.eval p.2))).run C.P w = .ok z w ∧ v.Rel β w (C.N β σ.h) z := by
 unfold xE at h
 split at h
 ·rename_i ti hti
  split at h
  ·rename_i fs hk
   split at h
   case isFalse => cases h
   rename_i hpl
   split at h
   ·rename_i ls hb
    simp only [Option.some.injEq, Prod.mk.injEq, true_and] at h
    subst h
    have hok := hT _ _ hti
    obtain ⟨ff, hu, rfl⟩ := hok.struct hk
    obtain ⟨_, z, hi, his, hib, hz, xU, hzs, zRy⟩ := hok.i
    have hmap : ∀ (l : List Field) (_ : ∀ f ∈ l, (T.get f.type).isSome = true) (acc : Array (Nat × Nat)), (l.foldlM (fun (acc : Array (Nat × Nat)) f => do
      let s <- sizeOf f.type
      pure (acc.push (f.offset, s))) acc : Sem (Array (Nat × Nat))).run C.P w = .ok (acc ++ (l.map fun f => (f.offset, ((T.get f.type).map (·.size)).getD 0)).toArray) w := by
     intro l
     induction l with
     | nil => intro _ acc; simp
     | cons f l ih =>
      intro hl acc
      obtain ⟨tf, htf⟩ := Option.isSome_iff_exists.1 (hl f (.head _))
      simp only [List.foldlM_cons, Sem.run_bind, (hT _ _ htf).sizeOf, Result.andThen_ok, Sem.run_pure]
      rw [ih (fun g hg => hl g (.tail _ hg))]
      simp [htf]
    have hall : ∀ f ∈ ff.toList, (T.get f.type).isSome = true := fun f hf => List.all_eq_true.1 hpl (f.offset, f.type) (List.mem_map.2 ⟨f, hf, rfl⟩)
    have zNj : (ff.mapM (fun f => do pure (f.offset, <- sizeOf f.type)) : Sem (Array (Nat × Nat))).run C.P w = .ok ((ff.toList.map fun f => (f.offset, ((T.get f.type).map (·.size)).getD 0)).toArray) w := by
     rw [Array.mapM_eq_foldlM, <- Array.foldlM_toList]
     have := hmap ff.toList hall #[]
     simp only [bind_pure_comp] at this ⊢
     simpa using this
    have zRz : ∀ (i off : Nat) (ft : TypeId) (tf : TI), (ff.toList.map fun f => (f.offset, f.type))[i]? = some (off, ft) -> T.get ft = some tf -> (((ff.toList.map fun f => (f.offset, ((T.get f.type).map (·.size)).getD 0)).toArray)[i]? : Option (Nat × Nat)) = some (off, tf.size) := by
     intro i off ft tf h1 h2
     simp only [List.getElem?_map, Option.map_eq_some_iff, Prod.mk.injEq, List.getElem?_toArray] at h1 ⊢
     obtain ⟨f, hf, rfl, rfl⟩ := h1
     exact ⟨f, hf, rfl, by simp [h2]⟩
    obtain ⟨cs', zRa, hr⟩ := Qw (β := β) (w := w) (N := C.N β σ.h) (places := fun i => (((ff.toList.map fun f => (f.offset, ((T.get f.type).map (·.size)).getD 0)).toArray)[i]? : Option (Nat × Nat))) hT zRz (vals σ parts.toList) (parts.toList.map fun p => (p.1, a.eval p.2)) ti.zls ls z.cells hb (xU _ _ _) (Zf hs _)
    refine ⟨.agg cs', ?_, ⟨cs'.toList, rfl, hr⟩⟩
    have hzv : (zeroValue t).run C.P w = .ok z w := by simp [zeroValue, typeInfo, hi, hz]
    simp only [Instr.build, Sem.run_bind, hzv, Result.andThen_ok, run_underlying hu, zNj, Array.toList_map]
    rw [zRa]
    rfl
   ·cases h
  ·cases h
 ·cases h
theorem zNk {N : Nat -> Prop} {v r : V} {i : Nat} {x : Value} (h : ext v i = some r) (hr : v.Rel β w N x) : ∃ z, (Instr.extract x i).run C.P w = .ok z w ∧ r.Rel β w N z := by
 unfold ext at h
 split at h
 ·rename_i vs
  obtain ⟨us, rfl, hall⟩ := hr
  have hi : i < vs.length := by
   rcases Nat.lt_or_ge i vs.length with h1 | h1
   ·exact h1
   ·rw [List.getElem?_eq_none h1] at h; cases h
  have hi1 : i < us.length := by rw [<- hall.length]; exact hi
  have hrel := hall.get i hi hi1
  rw [List.getElem?_eq_getElem hi] at h
  refine ⟨us[i], by simp [Instr.extract, hi1], ?_⟩
  split at h
  ·rename_i l hl
   simp only [Option.some.injEq] at h hl
   subst h
   rw [hl] at hrel
   exact hrel
  ·rename_i ls hl
   simp only [Option.some.injEq] at h hl
   subst h
   rw [hl] at hrel
   exact hrel
  ·cases h
 ·cases h
end
end Go.Dec
