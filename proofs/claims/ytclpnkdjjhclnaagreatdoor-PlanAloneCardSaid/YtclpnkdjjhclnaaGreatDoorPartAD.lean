/- Part of a proof over this seat: a library of my own, and what it says of this seat. No statement is proved here. -/
import Derived.Test.YtclpnkdjjhclnaaGreatDoorPartAC
import Derived.LaidEql
import Derived.WalkSpells
namespace Go.Dec
section
variable {β : Nat -> Pl} {w : World} {T : Tab} {C : Ctx}
def rowsOf (h : List Ob) (te : Ty) (x : L) : Option (Bool × List te.den) :=
 match x with
 | .bH => some (true, [])
 | .val (.slice t) ys => if e : t = te then some (true, e ▸ ys) else none
 | .own id ver =>
  match h[id]? with
  | some (.arr _ t v rows _) => if e : t = te then some (Nat.beq v ver, e ▸ rows) else none
  | _ => none
 | .sl id ver off len =>
  match h[id]? with
  | some (.arr _ t v rows _) => if e : t = te then some (Nat.beq v ver && decide (off + len <= rows.length), e ▸ ((rows.drop off).take len)) else none
  | _ => none
 | _ => none
theorem yV {N : Nat -> Nat -> Prop} {te : Ty} {ys : List te.den} {css : List (List Value)} (h : aN (fun x c => te.Rel w N x c) ys css) : ∀ c ∈ css, c.length = te.size := fun c hc => by
 obtain ⟨y, _, hy⟩ := h.mem_right c hc
 exact hy.length
def room : Nat := 140737488355328
end
end Go.Dec
namespace Go.Dec
def Ty.cmp : Ty -> Bool
 | .unit | .bool | .int _ | .str => true
 | .pair a b => a.cmp && b.cmp
 | .arr _ a => a.cmp
 | _ => false
def vK {α : Type} (f : α -> α -> Bool) : List α -> List α -> Bool
 | [], [] => true
 | x :: xs, y :: ys => f x y && vK f xs ys
 | _, _ => false
def Ty.beq : (t : Ty) -> t.den -> t.den -> Bool
 | .unit, _, _ => true
 | .bool, a, b => Bool.beq' a b
 | .int _, a, b => Int.beq' a b
 | .str, a, b => List.beq' a b
 | .pair a b, x, y => a.beq x.1 y.1 && b.beq x.2 y.2
 | .arr _ a, x, y => vK (fun u v => a.beq u v) x y
 | _, _, _ => false
where
 Bool.beq' (a b : Bool) : Bool := a == b
 Int.beq' (a b : Int) : Bool := a == b
 List.beq' (a b : List UInt8) : Bool := a == b
def valOf (agg : Bool) (cs : List Value) : Value := if agg then .agg cs.toArray else cs.getD 0 undef
section
variable {P : Program} {w : World} {N : Nat -> Nat -> Prop}
theorem mK : ∀ {n : Nat} {t : TypeId} {ty : Ty} {d : TypeDesc}, aQ P n t = some ty -> P.underlying t = some d -> ty.cmp = true -> ty.isAgg = (TK.of d).isAgg
 | 0, _, _, _, h, _, _ => by simp [aQ] at h
 | n + 1, t, ty, d, h, hd, hc => by
  simp only [aQ, hd] at h
  cases d <;> simp only [Option.some.injEq, reduceCtorEq, Option.map_eq_some_iff] at h
  case bool => subst h; rfl
  case int => subst h; rfl
  case string => subst h; rfl
  case slice => obtain ⟨a, _, rfl⟩ := h; simp [Ty.cmp] at hc
  case array => obtain ⟨a, _, rfl⟩ := h; rfl
  case func => subst h; simp [Ty.cmp] at hc
  case interface => subst h; simp [Ty.cmp] at hc
  case struct fs =>
   revert h
   generalize fs.toList = l
   cases l with
   | nil => intro h; simp at h; subst h; rfl
   | cons f l =>
    intro h
    simp only [List.foldr_cons] at h
    split at h
    ·simp only [Option.some.injEq] at h; subst h; rfl
    ·cases h
theorem mM {t : TypeId} {ty : Ty} {n : Nat} {d : TypeDesc} {x : ty.den} {cx : List Value} {all : List Value} {off : Nat} (ht : aQ P n t = some ty) (hd : P.underlying t = some d) (hc : ty.cmp = true) (hsz : ty.size = P.cellsOf t) (hx : ty.Rel w N x cx)
  (hat : (all.drop off).take cx.length = cx) : (part t all.toArray off).run P w = .ok (valOf ty.isAgg cx) w := by
 have hag := mK ht hd hc
 have hl := hx.length
 have hrun : (isAgg t).run P w = .ok (TK.of d).isAgg w := by
  simp only [isAgg, Sem.run_bind, run_underlying hd, Result.andThen_ok]
  cases d <;> rfl
 simp only [part, Sem.run_bind, hrun, Result.andThen_ok]
 rw [<- hag]
 cases h : ty.isAgg with
 | true =>
  have hi : ∃ i, P.info? t = some i := by
   unfold Program.underlying at hd
   split at hd
   ·rename_i h1; exact ⟨_, h1⟩
   ·rename_i i h1; exact ⟨_, h1⟩
   ·cases hd
  obtain ⟨i, hi⟩ := hi
  have hsz2 : (sizeOf t).run P w = .ok (P.cellsOf t) w := by simp [sizeOf, typeInfo, hi, Program.cellsOf]
  simp only [if_true, Sem.run_bind, hsz2, Result.andThen_ok, Sem.run_pure, valOf]
  congr 2
  rw [<- hsz, <- hl]
  apply Array.toList_inj.1
  simp only [Array.toList_extract, List.extract_eq_take_drop]
  rw [show off + cx.length - off = cx.length by omega]
  exact hat
 | false =>
  have h1 : cx.length = 1 := by
   rw [hl]
   cases ty <;> first | rfl | simp [Ty.isAgg] at h
  match cx, h1 with
  | [c], _ =>
   have hc0 : all[off]? = some c := by
    have := congrArg (fun l => l[0]?) hat
    simp only [List.getElem?_take, List.getElem?_drop, List.length_singleton, Nat.lt_add_one, if_true, Nat.add_zero, List.getElem?_cons_zero] at this
    exact this
   simp [valOf, hc0]
theorem wD {α : Type} (f : α -> α -> Bool) (w : World) (step : Nat -> Option Bool × Unit -> Sem (ForInStep (Option Bool × Unit))) : ∀ (xs ys : List α), xs.length = ys.length -> ∀ k,
  (∀ i (h : i < xs.length) (h' : i < ys.length), (step (k + i) (none, ())).run P w = .ok (if f xs[i] ys[i] = true then .yield (none, ()) else .done (some false, ())) w) ->
  (forIn (List.range' k xs.length) (none, ()) step).run P w = .ok (if vK f xs ys = true then (none, ()) else (some false, ())) w
 | [], [], _, k, _ => by simp [vK]
 | x :: xs, y :: ys, hl, k, h => by
  have h0 := h 0 (by simp) (by simp)
  simp only [Nat.add_zero, List.getElem_cons_zero] at h0
  simp only [List.length_cons, List.range'_succ, List.forIn_cons, Sem.run_bind, h0, Result.andThen_ok, vK]
  rcases Bool.eq_false_or_eq_true (f x y) with hf | hf
  case inr => simp [hf]
  case inl =>
   simp only [hf, if_true, Bool.true_and]
   exact wD f w step xs ys (by simpa using hl) (k + 1) fun i h1 h2 => by
    have := h (i + 1) (by simp; omega) (by simp; omega)
    simpa [Nat.add_assoc, Nat.add_comm 1 i] using this
 | [], _ :: _, hl, _, _ => by simp at hl
 | _ :: _, [], hl, _, _ => by simp at hl
def fP (P : Program) (n : Nat) (fs : List Field) : Option Ty := fs.foldr (fun f r => match aQ P n f.type, r with | some a, some b => some (.pair a b) | _, _ => none) (some .unit)
theorem oQ {n : Nat} (ih : ∀ (t : TypeId) (ty : Ty) (x y : ty.den) (cx cy : List Value) (d : Nat), n <= d -> aQ P n t = some ty -> kJ P n t = true -> ty.cmp = true -> ty.Rel w N x cx -> ty.Rel w N y cy ->
      (Op.equalIn d t (valOf ty.isAgg cx) (valOf ty.isAgg cy)).run P w = .ok (ty.beq x y) w) (d : Nat) (hd : n <= d) (ax ay : List Value) :
    ∀ (fs : List Field) (off : Nat) (ty : Ty) (x y : ty.den) (cx cy : List Value), fP P n fs = some ty -> eqF P (kJ P n) (aQ P n) off fs = true -> ty.cmp = true -> ty.Rel w N x cx -> ty.Rel w N y cy -> ax.drop off = cx -> ay.drop off = cy ->
      (Op.eqFields d ax.toArray ay.toArray fs).run P w = .ok (ty.beq x y) w
  | [], off, ty, x, y, cx, cy, ht, he, hc, hx, hy, hax, hay => by
    simp only [fP, List.foldr_nil, Option.some.injEq] at ht
    subst ht
    simp [Op.eqFields, Ty.beq]
  | f :: fs, off, ty, x, y, cx, cy, ht, he, hc, hx, hy, hax, hay => by
    simp only [fP, List.foldr_cons] at ht
    split at ht
    · rename_i _ a b hta htb
      simp only [Option.some.injEq] at ht
      subst ht
      simp only [eqF, Bool.and_eq_true, hta] at he
      obtain ⟨⟨⟨⟨h1, h2⟩, h3⟩, h4⟩, h5⟩ := he
      have h1 : f.offset = off := by simpa using h1
      have h2 : f.name ≠ "_" := by simpa using h2
      have h4 : a.size = P.cellsOf f.type := by simpa using h4
      simp only [Ty.cmp, Bool.and_eq_true] at hc
      obtain ⟨c1, c2, e1, hx1, hx2⟩ := hx
      obtain ⟨d1, d2, e2, hy1, hy2⟩ := hy
      obtain ⟨dsc, oU⟩ : ∃ dsc, P.underlying f.type = some dsc := by
        cases hu : P.underlying f.type with
        | some d => exact ⟨d, rfl⟩
        | none =>
          cases n with
          | zero => simp [aQ] at hta
          | succ n => simp [aQ, hu] at hta
      have hp1 := mM (all := ax) (off := off) hta oU hc.1 h4 hx1 (by rw [hax, e1, List.take_left])
      have hp2 := mM (all := ay) (off := off) hta oU hc.1 h4 hy1 (by rw [hay, e2, List.take_left])
      have hq := ih f.type a x.1 y.1 c1 d1 d hd hta h3 hc.1 hx1 hy1
      simp only [Op.eqFields, h2, ne_eq, not_false_eq_true, if_true, Sem.run_bind, h1, hp1, hp2, hq, Result.andThen_ok]
      cases hb : a.beq x.1 y.1 with
      | false => simp [Ty.beq, hb]
      | true =>
        simp only [Bool.not_true, Bool.false_eq_true, if_false]
        have := oQ ih d hd ax ay fs (off + P.cellsOf f.type) b x.2 y.2 c2 d2 htb h5 hc.2 hx2 hy2
          (by rw [<- h4, <- hx1.length, <- List.drop_drop, hax, e1, List.drop_left]) (by rw [<- h4, <- hy1.length, <- List.drop_drop, hay, e2, List.drop_left])
        rw [this]
        simp [Ty.beq, hb]
    · cases ht
theorem oV : ∀ (n : Nat) (t : TypeId) (ty : Ty) (x y : ty.den) (cx cy : List Value) (d : Nat), n <= d -> aQ P n t = some ty -> kJ P n t = true -> ty.cmp = true -> ty.Rel w N x cx -> ty.Rel w N y cy ->
      (Op.equalIn d t (valOf ty.isAgg cx) (valOf ty.isAgg cy)).run P w = .ok (ty.beq x y) w
  | 0, _, _, _, _, _, _, _, _, h, _, _, _, _ => by simp [aQ] at h
  | n + 1, t, ty, x, y, cx, cy, 0, hd, _, _, _, _, _ => by omega
  | n + 1, t, ty, x, y, cx, cy, d + 1, hd, ht, he, hc, hx, hy => by
    simp only [aQ] at ht
    simp only [kJ] at he
    split at ht
    · rename_i hu
      simp only [Option.some.injEq] at ht
      subst ht
      simp only [Ty.Rel] at hx hy
      subst hx hy
      simpa [valOf, Ty.isAgg, Ty.beq, Ty.beq.Bool.beq'] using run_equalIn_bool' w d t x y hu
    · rename_i k hu
      simp only [Option.some.injEq] at ht
      subst ht
      simp only [Ty.Rel] at hx hy
      subst hx hy
      simpa [valOf, Ty.isAgg, Ty.beq, Ty.beq.Int.beq'] using run_equalIn_int w d t k k x y hu
    · rename_i hu
      simp only [Option.some.injEq] at ht
      subst ht
      simp only [Ty.Rel] at hx hy
      subst hx hy
      have := run_equalIn_string (P := P) w d t ⟨x.toArray⟩ ⟨y.toArray⟩ hu
      rw [toList_mk, toList_mk] at this
      simpa [valOf, Ty.isAgg, Ty.beq, Ty.beq.List.beq'] using this
    · rename_i e hu
      cases hte : aQ P n e with
      | none => rw [hte] at ht; cases ht
      | some a => rw [hte] at ht; simp only [Option.map_some, Option.some.injEq] at ht; subst ht; simp [Ty.cmp] at hc
    · rename_i k e hu
      cases hte : aQ P n e with
      | none => rw [hte] at ht; cases ht
      | some a =>
        rw [hte] at ht
        simp only [Option.map_some, Option.some.injEq] at ht
        subst ht
        simp only [hu, hte, Bool.and_eq_true, beq_iff_eq] at he
        simp only [Ty.cmp] at hc
        obtain ⟨hxl, Da, rfl, hax⟩ := hx
        obtain ⟨hyl, Db, rfl, hay⟩ := hy
        have hlx := yV hax
        have hly := yV hay
        obtain ⟨dsc, oU⟩ : ∃ dsc, P.underlying e = some dsc := by
          cases hu : P.underlying e with
          | some d => exact ⟨d, rfl⟩
          | none =>
            cases n with
            | zero => simp [aQ] at hte
            | succ n => simp [aQ, hu] at hte
        obtain ⟨i, hi⟩ : ∃ i, P.info? e = some i := by
          unfold Program.underlying at oU
          split at oU
          · rename_i h1; exact ⟨_, h1⟩
          · rename_i i h1; exact ⟨_, h1⟩
          · cases oU
        have hsz2 : (sizeOf e).run P w = .ok (P.cellsOf e) w := by simp [sizeOf, typeInfo, hi, Program.cellsOf]
        have hagg : (Ty.arr k a).isAgg = true := rfl
        simp only [hagg, valOf, if_true, Op.equalIn, Sem.run_bind, run_underlying hu, Result.andThen_ok, hsz2]
        rw [Std.Legacy.Range.forIn_eq_forIn_range']
        have hrange : Std.Legacy.Range.size { stop := k, step_pos := Nat.one_pos } = x.length := by simp [Std.Legacy.Range.size, hxl]
        simp only [hrange]
        rw [wD (fun u v => a.beq u v) w _ x y (by rw [hxl, hyl]) 0 (fun i h1 h2 => by
          have h1' : i < Da.length := by rw [<- hax.length]; exact h1
          have h2' : i < Db.length := by rw [<- hay.length]; exact h2
          have r1 := hax.get i h1 h1'
          have r2 := hay.get i h2 h2'
          have seg : ∀ (css : List (List Value)) (h : i < css.length), (∀ c ∈ css, c.length = a.size) -> (css.flatten.drop (i * a.size)).take css[i].length = css[i] := fun css h hl => by
            rw [oO css hl i, List.drop_eq_getElem_cons h, List.flatten_cons, List.take_left]
          have p1 := mM (all := Da.flatten) (off := i * a.size) hte oU hc he.2 r1 (seg Da h1' hlx)
          have p2 := mM (all := Db.flatten) (off := i * a.size) hte oU hc he.2 r2 (seg Db h2' hly)
          have q := oV n e a x[i] y[i] Da[i] Db[i] d (by omega) hte he.1 hc r1 r2
          simp only [Nat.zero_add, Sem.run_bind, <- he.2, p1, p2, Result.andThen_ok, q]
          rcases Bool.eq_false_or_eq_true (a.beq x[i] y[i]) with hb | hb <;> simp [hb])]
        simp only [Ty.beq]
        rcases Bool.eq_false_or_eq_true (vK (fun u v => a.beq u v) x y) with hb | hb <;> simp [hb]
    · rename_i fs hu
      have hf : P.fieldsOf t = fs := by simp [Program.fieldsOf, hu]
      simp only [hu, Bool.and_eq_true, Bool.not_eq_true'] at he
      have hagg : ty.isAgg = true := by
        have := mK (n := n + 1) (t := t) (by simp only [aQ, hu]; exact ht) hu hc
        simpa [TK.of, TK.isAgg] using this
      rw [hagg]
      simp only [valOf, if_true]
      rw [run_equalIn_struct w d t _ _ (by rw [hf]; exact hu) he.1, hf]
      exact oQ (oV n) d (by omega) cx cy fs.toList 0 ty x y cx cy ht he.2 hc hx hy rfl rfl
    · simp only [Option.some.injEq] at ht; subst ht; simp [Ty.cmp] at hc
    · simp only [Option.some.injEq] at ht; subst ht; simp [Ty.cmp] at hc
    · cases ht
end
end Go.Dec
namespace Go.Dec
def iV : Operand -> Bool
 | .const (.pointer none) | .const .nilIface | .const .nilFunc | .const (.slice none 0 0) => true
 | _ => false
def Mc (k : TK) (x : L) (c : Operand) : Option Bool :=
 match k, c, x with
 | .ptr _, .const (.pointer none), .eH => some true
 | .ptr _, .const (.pointer none), .ptr .. => some false
 | .ptr _, .const (.pointer none), .bY .. => some false
 | .ptr _, .const (.pointer none), .cK .. => some false
 | .iface _, .const .nilIface, .val .err b => some (!b)
 | .func, .const .nilFunc, .clo .. => some false
 | .slice _, .const (.slice none 0 0), .bH => some true
 | _, _, _ => none
def eqV (T : Tab) (xt : TypeId) (a b : List L) : Option Bool :=
 match T.get xt with
 | some ti =>
  match ti.ty with
  | some ty =>
   if ti.eqs && ty.cmp && ty.isAgg then
    match fD ty a, fD ty b with
    | some (x, []), some (y, []) => some (ty.beq x y)
    | _, _ => none
   else none
  | none => none
 | none => none
def isEq : BinOp -> Bool
 | .eql | .neq => true
 | _ => false
def sgn (op : BinOp) (b : Bool) : Bool :=
 match op with
 | .neq => !b
 | _ => b
def yX (T : Tab) (σ : St) (op : BinOp) (xt : TypeId) (x y : Operand) : Option (Bool × V) :=
 if isEq op && iV y then
  match ovl σ x, T.get xt with
  | .one l, some ti =>
   match Mc ti.k l y with
   | some b => some (true, .one (.val .bool (sgn op b)))
   | none => none
  | _, _ => none
 else
  match ovl σ x, ovl σ y with
  | .one a, .one b =>
   match a, b with
   | .val .bool p, .val .bool q =>
    match T.get xt with
    | some ti => match ti.k with
     | .bool => match Ka op p q with
      | some (c, r) => some (c, .one r)
      | none => none
     | _ => none
    | none => none
   | a, b => match bin op a b with
    | some (c, r) => some (c, .one r)
    | none => none
  | .agg a, .agg b =>
   if isEq op then
    match eqV T xt a b with
    | some r => some (true, .one (.val .bool (sgn op r)))
    | none => none
   else none
  | _, _ => none
def kK (T : Tab) (σ : St) (s d : TypeId) (x : Operand) : Option (Bool × V) :=
 match T.get s, T.get d, ovl σ x with
 | some ts, some td, .one l =>
  match td.k, ts.k, l with
  | .int k, .int _, .val (.int _) n => some (true, .one (.val (.int k) (k.wrap n)))
  | .str, .str, .val .str s => some (true, .one (.val .str s))
  | _, _, _ => none
 | _, _, _ => none
def vals (σ : St) : List (Nat × Operand) -> List (Nat × V)
 | [] => []
 | (i, x) :: r => (i, ovl σ x) :: vals σ r
def lJ (T : Tab) (σ : St) (t : TypeId) (parts : List (Nat × Operand)) : Option (Bool × V) :=
 match T.get t with
 | some ti =>
  match ti.k with
  | .struct fs =>
   if fs.all fun p => (T.get p.2).isSome then
    match build T fs ti.zls (vals σ parts) with
    | some ls => some (true, .agg ls)
    | none => none
   else none
  | _ => none
 | none => none
def elems (σ : St) (te : Ty) : Nat -> List (Nat × Operand) -> Option (List te.den)
 | _, [] => some []
 | k, (i, x) :: r =>
  if Nat.beq i k then
   match (ovl σ x).leaves with
   | some ls =>
    match fD te ls, elems σ te (k + 1) r with
    | some (y, []), some ys => some (y :: ys)
    | _, _ => none
   | none => none
  else none
def elemTy (T : Tab) (t : TypeId) : Option (TypeId × Ty × TI) :=
 match T.get t with
 | some ts =>
  match ts.k with
  | .slice e =>
   match T.get e with
   | some ti =>
    match ti.ty with
    | some te => if Nat.beq ti.size te.size && Nat.ble 1 te.size && Nat.ble 1 ti.bytes then some (e, te, ti) else none
    | none => none
   | none => none
  | _ => none
 | none => none
def yY (T : Tab) (σ : St) (t : TypeId) (x : Operand) : Option (Bool × V) :=
 match T.get t, ovl σ x with
 | some ti, .one l =>
  match ti.k with
  | .arr n _ => some (true, .one (.val (.int .i64) (n : Int)))
  | .str => match l with
   | .val .str s => some (true, .one (.val (.int .i64) (s.length : Int)))
   | _ => none
  | .slice _ => match Np σ.h (l.view σ.h) with
   | some (c, n) => some (c, .one (.val (.int .i64) n))
   | none => none
  | _ => none
 | _, _ => none
def lK (T : Tab) (σ : St) (t : TypeId) (s x : Operand) : Option (Bool × V × List Ob) :=
 match elemTy T t, ovl σ s, ovl σ x with
 | some (e, te, ti), .one ls, .one lx =>
  match rowsOf σ.h te lx with
  | some (c, ys) =>
   match ls with
   | .bH => some (c && Nat.ble (ys.length * ti.bytes) room, .one (.own σ.h.length 0), σ.h ++ [.arr e te 0 ys true])
   | .own id ver =>
    match σ.h[id]? with
    | some (.arr e' t' v rows true) => if h : t' = te ∧ e' = e then
      some (c && (Nat.beq v ver && Nat.ble ((rows.length + ys.length) * ti.bytes) room), .one (.own id (ver + 1)), σ.h.set id (.arr e te (ver + 1) ((h.1 ▸ rows) ++ ys) true))
     else none
    | _ => none
   | .sl id ver off len =>
    match σ.h[id]? with
    | some (.arr e' t' v rows true) => if h : t' = te ∧ e' = e then
      some (c && (Nat.beq v ver && (Nat.beq off 0 && (Nat.ble len rows.length && Nat.ble ((len + ys.length) * ti.bytes) room))), .one (.own id (ver + 1)), σ.h.set id (.arr e te (ver + 1) ((h.1 ▸ rows).take len ++ ys) true))
     else none
    | _ => none
   | _ => none
  | none => none
 | _, _, _ => none
def yZ (s : List UInt8) : List Int := s.map fun b => (b.toNat : Int)
def vL (T : Tab) (σ : St) (t t' : TypeId) (s x : Operand) : Option (Bool × V × List Ob) :=
 match elemTy T t, T.get t', ovl σ s, ovl σ x with
 | some (e, _, ti), some tx, .one (.own id ver), .one (.val .str u) =>
  match tx.k, σ.h[id]? with
  | .str, some (.arr e' (.int .u8) v rows true) =>
   some (Nat.beq e' e && (Nat.beq ti.size 1 && (Nat.beq v ver && Nat.ble ((rows.length + u.length) * ti.bytes) room)), .one (.own id (ver + 1)), σ.h.set id (.arr e' (.int .u8) (ver + 1) (rows ++ yZ u) true))
  | _, _ => none
 | _, _, _, _ => none
def bD (T : Tab) (σ : St) (o : Oper) : Option (Bool × V × List Ob) :=
 match o.op with
 | .move x => some (true, ovl σ x, σ.h)
 | .assign x => some (true, ovl σ x, σ.h)
 | .unOp op _ x =>
  match ovl σ x with
  | .one l => match un op l with
   | some (c, r) => some (c, .one r, σ.h)
   | none => none
  | _ => none
 | .binOp op xt x y _ => match yX T σ op xt x y with
  | some (c, v) => some (c, v, σ.h)
  | none => none
 | .convert s d x => match kK T σ s d x with
  | some (c, v) => some (c, v, σ.h)
  | none => none
 | .fieldAddr s x f =>
  match T.get s, ovl σ x with
  | some ti, .one l =>
   match ti.k with
   | .struct fs =>
    match fs[f]? with
    | some (off, ft) =>
     match T.get ft with
     | some tf => if Nat.ble 1 tf.size then
       match rO σ.h l off with
       | some (c, r) => some (c, .one r, σ.h)
       | none => none
      else none
     | none => none
    | none => none
   | _ => none
  | _, _ => none
 | .indexAddr t x i =>
  match T.get t, ovl σ x, fO (ovl σ i) with
  | some ti, .one l, some (_, n) =>
   match vJ T σ.h ti.k (l.view σ.h) n with
   | some (c, r) => some (c, .one r, σ.h)
   | none => none
  | _, _, _ => none
 | .index t x i =>
  match T.get t, fO (ovl σ i) with
  | some ti, some (_, n) =>
   match ti.k with
   | .str => match idx (ovl σ x) n with
    | some (c, v) => some (c, v, σ.h)
    | none => none
   | _ => none
  | _, _ => none
 | .slice t x lo hi none =>
  match T.get t, ovl σ x, eP σ lo, eP σ hi with
  | some ti, .one l, some l0, some h0 =>
   match slice ti.k (l.view σ.h) l0 h0 σ.h with
   | some (c, r) =>
    match ti.k with
    | .slice e =>
     match T.get e with
     | some te =>
      match l.view σ.h with
      | .val (.slice a) _ => if Nat.beq a.size te.size then some (c, .one r, σ.h) else none
      | .sl id _ _ _ =>
       match σ.h[id]? with
       | some (.arr _ a _ _ _) => if Nat.beq a.size te.size then some (c, .one r, σ.h) else none
       | _ => none
      | _ => none
     | none => none
    | .str => some (c, .one r, σ.h)
    | _ => none
   | none => none
  | _, _, _, _ => none
 | .build t parts => match lJ T σ t parts.toList with
  | some (c, v) => some (c, v, σ.h)
  | none => none
 | .extract x i => match ext (ovl σ x) i with
  | some v => some (true, v, σ.h)
  | none => none
 | .load t x =>
  match ovl σ x with
  | .one l => match loadAt T σ.h t l with
   | some (c, v) => some (c, v, σ.h)
   | none => none
  | _ => none
 | .store t x y =>
  match ovl σ x with
  | .one l => match storeAt T σ.h t l (ovl σ y) with
   | some (c, h) => some (c, .aO, h)
   | none => none
  | _ => none
 | .nilCheck x =>
  match ovl σ x with
  | .one (.ptr id off) => some (true, .one (.ptr id off), σ.h)
  | .one (.bY id off es i sub) => some (true, .one (.bY id off es i sub), σ.h)
  | .one (.cK t y off) => some (true, .one (.cK t y off), σ.h)
  | .one (.clo f cs) => some (true, .one (.clo f cs), σ.h)
  | .one (.val .opq (.func (.func f) a b)) => some (true, .one (.val .opq (.func (.func f) a b)), σ.h)
  | _ => none
 | .makeFunc (.func f) first cs =>
  if first.size = 0 then
   match caps σ cs.toList with
   | some ls => some (true, .one (.clo f ls), σ.h)
   | none => none
  else none
 | .box e x =>
  match (ovl σ x).leaves with
  | some ls => some (true, .one (.ptr σ.h.length 0), σ.h ++ [.box e ls])
  | none => none
 | .alloc e =>
  match T.get e with
  | some ti => some (true, .one (.ptr σ.h.length 0), σ.h ++ [.box e ti.zls])
  | none => none
 | .buildSlice t n parts =>
  match elemTy T t with
  | some (e, te, _) =>
   if Nat.beq n parts.size && Nat.ble (n * te.size) 16777216 then
    match elems σ te 0 parts.toList with
    | some ys => some (true, .one (.own σ.h.length 0), σ.h ++ [.arr e te 0 ys true])
    | none => none
   else none
  | none => none
 | .makeSlice t l c =>
  match elemTy T t, fO (ovl σ l), fO (ovl σ c) with
  | some (e, te, ti), some (.i64, n), some (.i64, m) =>
   match fD te ti.zls with
   | some (z, []) => some (decide (0 <= n) && (decide (n = m) && Nat.ble (n.toNat * ti.bytes) room), .one (.own σ.h.length 0), σ.h ++ [.arr e te 0 (List.replicate n.toNat z) true])
   | _ => none
  | _, _, _ => none
 | .call { callee := .builtin b, args, argTypes } =>
  match b, args.toList, argTypes.toList with
  | .len, [x], [t] => match yY T σ t x with
   | some (c, v) => some (c, v, σ.h)
   | none => none
  | .append, [s, x], [t, t'] => if Nat.beq t t' then lK T σ t s x else vL T σ t t' s x
  | .min, [x, y], _ =>
   match fO (ovl σ x), fO (ovl σ y) with
   | some (k, a), some (_, b) => some (true, .one (.val (.int k) (if b < a then b else a)), σ.h)
   | _, _ => none
  | .max, [x, y], _ =>
   match fO (ovl σ x), fO (ovl σ y) with
   | some (k, a), some (_, b) => some (true, .one (.val (.int k) (if b > a then b else a)), σ.h)
   | _, _ => none
  | _, _, _ => none
 | _ => none
end Go.Dec
