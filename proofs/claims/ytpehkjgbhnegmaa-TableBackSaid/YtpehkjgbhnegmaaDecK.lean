/- The part K: structs and arrays held against each other. No statement is proved here. -/
import Derived.Test.YtpehkjgbhnegmaaDecJ
namespace Go.Dec

def Ty.cmp : Ty → Bool
  | .unit | .bool | .int _ | .str => true
  | .pair a b => a.cmp && b.cmp
  | .arr _ a => a.cmp
  | _ => false

def beqL {α : Type} (f : α → α → Bool) : List α → List α → Bool
  | [], [] => true
  | x :: xs, y :: ys => f x y && beqL f xs ys
  | _, _ => false

def Ty.beq : (t : Ty) → t.den → t.den → Bool
  | .unit, _, _ => true
  | .bool, a, b => Bool.beq' a b
  | .int _, a, b => Int.beq' a b
  | .str, a, b => List.beq' a b
  | .pair a b, x, y => a.beq x.1 y.1 && b.beq x.2 y.2
  | .arr _ a, x, y => beqL (fun u v => a.beq u v) x y
  | _, _, _ => false
where
  Bool.beq' (a b : Bool) : Bool := a == b
  Int.beq' (a b : Int) : Bool := a == b
  List.beq' (a b : List UInt8) : Bool := a == b

/-- The value of these cells. -/
def valOf (agg : Bool) (cs : List Value) : Value := if agg then .agg cs.toArray else cs.getD 0 undef

section
variable {P : Program} {w : World} {N : Nat → Prop}

theorem tyOf_isAgg : ∀ {n : Nat} {t : TypeId} {ty : Ty} {d : TypeDesc}, tyOf P n t = some ty → P.underlying t = some d → ty.cmp = true → ty.isAgg = (TK.of d).isAgg
  | 0, _, _, _, h, _, _ => by simp [tyOf] at h
  | n + 1, t, ty, d, h, hd, hc => by
    simp only [tyOf, hd] at h
    cases d <;> simp only [Option.some.injEq, reduceCtorEq, Option.map_eq_some_iff] at h
    case bool => subst h; rfl
    case int => subst h; rfl
    case string => subst h; rfl
    case slice => obtain ⟨a, _, rfl⟩ := h; simp [Ty.cmp] at hc
    case array => obtain ⟨a, _, rfl⟩ := h; rfl
    case func => subst h; simp [Ty.cmp] at hc
    case interface => subst h; simp [Ty.cmp] at hc
    case struct fs =>
      revert h
      generalize fs.toList = l
      cases l with
      | nil => intro h; simp at h; subst h; rfl
      | cons f l =>
        intro h
        simp only [List.foldr_cons] at h
        split at h
        · simp only [Option.some.injEq] at h; subst h; rfl
        · cases h

theorem part_run {t : TypeId} {ty : Ty} {n : Nat} {d : TypeDesc} {x : ty.den} {cx : List Value} {all : List Value} {off : Nat} (ht : tyOf P n t = some ty) (hd : P.underlying t = some d) (hc : ty.cmp = true) (hsz : ty.size = P.cellsOf t) (hx : ty.Rel w N x cx)
    (hat : (all.drop off).take cx.length = cx) : (part t all.toArray off).run P w = .ok (valOf ty.isAgg cx) w := by
  have hag := tyOf_isAgg ht hd hc
  have hl := hx.length
  have hrun : (isAgg t).run P w = .ok (TK.of d).isAgg w := by
    simp only [isAgg, Sem.run_bind, run_underlying hd, Result.andThen_ok]
    cases d <;> rfl
  simp only [part, Sem.run_bind, hrun, Result.andThen_ok]
  rw [← hag]
  cases h : ty.isAgg with
  | true =>
    have hi : ∃ i, P.info? t = some i := by
      unfold Program.underlying at hd
      split at hd
      · rename_i h1; exact ⟨_, h1⟩
      · rename_i i h1; exact ⟨_, h1⟩
      · cases hd
    obtain ⟨i, hi⟩ := hi
    have hsz2 : (sizeOf t).run P w = .ok (P.cellsOf t) w := by simp [sizeOf, typeInfo, hi, Program.cellsOf]
    simp only [if_true, Sem.run_bind, hsz2, Result.andThen_ok, Sem.run_pure, valOf]
    congr 2
    rw [← hsz, ← hl]
    apply Array.toList_inj.1
    simp only [Array.toList_extract, List.extract_eq_take_drop]
    rw [show off + cx.length - off = cx.length by omega]
    exact hat
  | false =>
    have h1 : cx.length = 1 := by
      rw [hl]
      cases ty <;> first | rfl | simp [Ty.isAgg] at h
    match cx, h1 with
    | [c], _ =>
      have hc0 : all[off]? = some c := by
        have := congrArg (fun l => l[0]?) hat
        simp only [List.getElem?_take, List.getElem?_drop, List.length_singleton, Nat.lt_add_one, if_true, Nat.add_zero, List.getElem?_cons_zero] at this
        exact this
      simp [valOf, hc0]

/-- Two arrays' elements. -/
theorem range_beq {α : Type} (f : α → α → Bool) (w : World) (step : Nat → Option Bool × Unit → Sem (ForInStep (Option Bool × Unit))) : ∀ (xs ys : List α), xs.length = ys.length → ∀ k,
    (∀ i (h : i < xs.length) (h' : i < ys.length), (step (k + i) (none, ())).run P w = .ok (if f xs[i] ys[i] = true then .yield (none, ()) else .done (some false, ())) w) →
    (forIn (List.range' k xs.length) (none, ()) step).run P w = .ok (if beqL f xs ys = true then (none, ()) else (some false, ())) w
  | [], [], _, k, _ => by simp [beqL]
  | x :: xs, y :: ys, hl, k, h => by
    have h0 := h 0 (by simp) (by simp)
    simp only [Nat.add_zero, List.getElem_cons_zero] at h0
    simp only [List.length_cons, List.range'_succ, List.forIn_cons, Sem.run_bind, h0, Result.andThen_ok, beqL]
    rcases Bool.eq_false_or_eq_true (f x y) with hf | hf
    case inr => simp [hf]
    case inl =>
      simp only [hf, if_true, Bool.true_and]
      exact range_beq f w step xs ys (by simpa using hl) (k + 1) fun i h1 h2 => by
        have := h (i + 1) (by simp; omega) (by simp; omega)
        simpa [Nat.add_assoc, Nat.add_comm 1 i] using this
  | [], _ :: _, hl, _, _ => by simp at hl
  | _ :: _, [], hl, _, _ => by simp at hl

def foldTy (P : Program) (n : Nat) (fs : List Field) : Option Ty := fs.foldr (fun f r => match tyOf P n f.type, r with | some a, some b => some (.pair a b) | _, _ => none) (some .unit)

theorem equal_struct {n : Nat} (ih : ∀ (t : TypeId) (ty : Ty) (x y : ty.den) (cx cy : List Value) (d : Nat), n ≤ d → tyOf P n t = some ty → eqsOf P n t = true → ty.cmp = true → ty.Rel w N x cx → ty.Rel w N y cy →
      (Op.equalIn d t (valOf ty.isAgg cx) (valOf ty.isAgg cy)).run P w = .ok (ty.beq x y) w) (d : Nat) (hd : n ≤ d) (ax ay : List Value) :
    ∀ (fs : List Field) (off : Nat) (ty : Ty) (x y : ty.den) (cx cy : List Value), foldTy P n fs = some ty → eqF P (eqsOf P n) (tyOf P n) off fs = true → ty.cmp = true → ty.Rel w N x cx → ty.Rel w N y cy → ax.drop off = cx → ay.drop off = cy →
      (Op.eqFields d ax.toArray ay.toArray fs).run P w = .ok (ty.beq x y) w
  | [], off, ty, x, y, cx, cy, ht, he, hc, hx, hy, hax, hay => by
    simp only [foldTy, List.foldr_nil, Option.some.injEq] at ht
    subst ht
    simp [Op.eqFields, Ty.beq]
  | f :: fs, off, ty, x, y, cx, cy, ht, he, hc, hx, hy, hax, hay => by
    simp only [foldTy, List.foldr_cons] at ht
    split at ht
    · rename_i _ a b hta htb
      simp only [Option.some.injEq] at ht
      subst ht
      simp only [eqF, Bool.and_eq_true, hta] at he
      obtain ⟨⟨⟨⟨h1, h2⟩, h3⟩, h4⟩, h5⟩ := he
      have h1 : f.offset = off := by simpa using h1
      have h2 : f.name ≠ "_" := by simpa using h2
      have h4 : a.size = P.cellsOf f.type := by simpa using h4
      simp only [Ty.cmp, Bool.and_eq_true] at hc
      obtain ⟨c1, c2, e1, hx1, hx2⟩ := hx
      obtain ⟨d1, d2, e2, hy1, hy2⟩ := hy
      obtain ⟨dsc, hdsc⟩ : ∃ dsc, P.underlying f.type = some dsc := by
        cases hu : P.underlying f.type with
        | some d => exact ⟨d, rfl⟩
        | none =>
          cases n with
          | zero => simp [tyOf] at hta
          | succ n => simp [tyOf, hu] at hta
      have hp1 := part_run (all := ax) (off := off) hta hdsc hc.1 h4 hx1 (by rw [hax, e1, List.take_left])
      have hp2 := part_run (all := ay) (off := off) hta hdsc hc.1 h4 hy1 (by rw [hay, e2, List.take_left])
      have hq := ih f.type a x.1 y.1 c1 d1 d hd hta h3 hc.1 hx1 hy1
      simp only [Op.eqFields, h2, ne_eq, not_false_eq_true, if_true, Sem.run_bind, h1, hp1, hp2, hq, Result.andThen_ok]
      cases hb : a.beq x.1 y.1 with
      | false => simp [Ty.beq, hb]
      | true =>
        simp only [Bool.not_true, Bool.false_eq_true, if_false]
        have := equal_struct ih d hd ax ay fs (off + P.cellsOf f.type) b x.2 y.2 c2 d2 htb h5 hc.2 hx2 hy2
          (by rw [← h4, ← hx1.length, ← List.drop_drop, hax, e1, List.drop_left]) (by rw [← h4, ← hy1.length, ← List.drop_drop, hay, e2, List.drop_left])
        rw [this]
        simp [Ty.beq, hb]
    · cases ht

theorem equal_run : ∀ (n : Nat) (t : TypeId) (ty : Ty) (x y : ty.den) (cx cy : List Value) (d : Nat), n ≤ d → tyOf P n t = some ty → eqsOf P n t = true → ty.cmp = true → ty.Rel w N x cx → ty.Rel w N y cy →
      (Op.equalIn d t (valOf ty.isAgg cx) (valOf ty.isAgg cy)).run P w = .ok (ty.beq x y) w
  | 0, _, _, _, _, _, _, _, _, h, _, _, _, _ => by simp [tyOf] at h
  | n + 1, t, ty, x, y, cx, cy, 0, hd, _, _, _, _, _ => by omega
  | n + 1, t, ty, x, y, cx, cy, d + 1, hd, ht, he, hc, hx, hy => by
    simp only [tyOf] at ht
    simp only [eqsOf] at he
    split at ht
    · rename_i hu
      simp only [Option.some.injEq] at ht
      subst ht
      simp only [Ty.Rel] at hx hy
      subst hx hy
      simpa [valOf, Ty.isAgg, Ty.beq, Ty.beq.Bool.beq'] using run_equalIn_bool' w d t x y hu
    · rename_i k hu
      simp only [Option.some.injEq] at ht
      subst ht
      simp only [Ty.Rel] at hx hy
      subst hx hy
      simpa [valOf, Ty.isAgg, Ty.beq, Ty.beq.Int.beq'] using run_equalIn_int w d t k k x y hu
    · rename_i hu
      simp only [Option.some.injEq] at ht
      subst ht
      simp only [Ty.Rel] at hx hy
      subst hx hy
      have := run_equalIn_string (P := P) w d t ⟨x.toArray⟩ ⟨y.toArray⟩ hu
      rw [toList_mk, toList_mk] at this
      simpa [valOf, Ty.isAgg, Ty.beq, Ty.beq.List.beq'] using this
    · rename_i e hu
      cases hte : tyOf P n e with
      | none => rw [hte] at ht; cases ht
      | some a => rw [hte] at ht; simp only [Option.map_some, Option.some.injEq] at ht; subst ht; simp [Ty.cmp] at hc
    · rename_i k e hu
      cases hte : tyOf P n e with
      | none => rw [hte] at ht; cases ht
      | some a =>
        rw [hte] at ht
        simp only [Option.map_some, Option.some.injEq] at ht
        subst ht
        simp only [hu, hte, Bool.and_eq_true, beq_iff_eq] at he
        simp only [Ty.cmp] at hc
        obtain ⟨hxl, cssx, rfl, hax⟩ := hx
        obtain ⟨hyl, cssy, rfl, hay⟩ := hy
        have hlx := rel_lens hax
        have hly := rel_lens hay
        obtain ⟨dsc, hdsc⟩ : ∃ dsc, P.underlying e = some dsc := by
          cases hu : P.underlying e with
          | some d => exact ⟨d, rfl⟩
          | none =>
            cases n with
            | zero => simp [tyOf] at hte
            | succ n => simp [tyOf, hu] at hte
        obtain ⟨i, hi⟩ : ∃ i, P.info? e = some i := by
          unfold Program.underlying at hdsc
          split at hdsc
          · rename_i h1; exact ⟨_, h1⟩
          · rename_i i h1; exact ⟨_, h1⟩
          · cases hdsc
        have hsz2 : (sizeOf e).run P w = .ok (P.cellsOf e) w := by simp [sizeOf, typeInfo, hi, Program.cellsOf]
        have hagg : (Ty.arr k a).isAgg = true := rfl
        simp only [hagg, valOf, if_true, Op.equalIn, Sem.run_bind, run_underlying hu, Result.andThen_ok, hsz2]
        rw [Std.Legacy.Range.forIn_eq_forIn_range']
        have hrange : Std.Legacy.Range.size { stop := k, step_pos := Nat.one_pos } = x.length := by simp [Std.Legacy.Range.size, hxl]
        simp only [hrange]
        rw [range_beq (fun u v => a.beq u v) w _ x y (by rw [hxl, hyl]) 0 (fun i h1 h2 => by
          have h1' : i < cssx.length := by rw [← hax.length]; exact h1
          have h2' : i < cssy.length := by rw [← hay.length]; exact h2
          have r1 := hax.get i h1 h1'
          have r2 := hay.get i h2 h2'
          have seg : ∀ (css : List (List Value)) (h : i < css.length), (∀ c ∈ css, c.length = a.size) → (css.flatten.drop (i * a.size)).take css[i].length = css[i] := fun css h hl => by
            rw [flatten_drop css hl i, List.drop_eq_getElem_cons h, List.flatten_cons, List.take_left]
          have p1 := part_run (all := cssx.flatten) (off := i * a.size) hte hdsc hc he.2 r1 (seg cssx h1' hlx)
          have p2 := part_run (all := cssy.flatten) (off := i * a.size) hte hdsc hc he.2 r2 (seg cssy h2' hly)
          have q := equal_run n e a x[i] y[i] cssx[i] cssy[i] d (by omega) hte he.1 hc r1 r2
          simp only [Nat.zero_add, Sem.run_bind, ← he.2, p1, p2, Result.andThen_ok, q]
          rcases Bool.eq_false_or_eq_true (a.beq x[i] y[i]) with hb | hb <;> simp [hb])]
        simp only [Ty.beq]
        rcases Bool.eq_false_or_eq_true (beqL (fun u v => a.beq u v) x y) with hb | hb <;> simp [hb]
    · rename_i fs hu
      have hf : P.fieldsOf t = fs := by simp [Program.fieldsOf, hu]
      simp only [hu, Bool.and_eq_true, Bool.not_eq_true'] at he
      have hagg : ty.isAgg = true := by
        have := tyOf_isAgg (n := n + 1) (t := t) (by simp only [tyOf, hu]; exact ht) hu hc
        simpa [TK.of, TK.isAgg] using this
      rw [hagg]
      simp only [valOf, if_true]
      rw [run_equalIn_struct w d t _ _ (by rw [hf]; exact hu) he.1, hf]
      exact equal_struct (equal_run n) d (by omega) cx cy fs.toList 0 ty x y cx cy ht he.2 hc hx hy rfl rfl
    · simp only [Option.some.injEq] at ht; subst ht; simp [Ty.cmp] at hc
    · simp only [Option.some.injEq] at ht; subst ht; simp [Ty.cmp] at hc
    · cases ht
end
end Go.Dec
