/- Part of a proof over this seat: a library of my own, and what it says of this seat. No statement is proved here. -/
import Derived.Test.YtpehkjgbhnegmaaPartAA
import Derived.LaidEql
import Derived.WalkSpells
import Derived.Lib.AppendStr
import Derived.Lib.ConvBytes
import Derived.Laws.BytesArg
namespace Go.Dec
section
variable {β : Nat → Pl} {w : World} {T : Tab} {C : Ctx}

/-- A slice's elements. -/
def rowsOf (h : List Ob) (te : Ty) (x : L) : Option (Bool × List te.den) :=
  match x with
  | .nils => some (true, [])
  | .val (.slice t) ys => if e : t = te then some (true, e ▸ ys) else none
  | .own id ver =>
    match h[id]? with
    | some (.arr _ t v rows _) => if e : t = te then some (Nat.beq v ver, e ▸ rows) else none
    | _ => none
  | .sl id ver off len =>
    match h[id]? with
    | some (.arr _ t v rows _) => if e : t = te then some (Nat.beq v ver && decide (off + len ≤ rows.length), e ▸ ((rows.drop off).take len)) else none
    | _ => none
  | _ => none

/-- Elements that lie somewhere. -/
def LieAt (w : World) (N : Nat → Prop) (te : Ty) (ys : List te.den) (v : Value) : Prop :=
  (v = .slice none 0 0 ∧ ys = []) ∨ (∃ b off cap css, v = .slice (some ⟨b, off, none⟩) ys.length cap ∧ ys.length ≤ cap ∧ All2 (fun x c => te.Rel w N x c) ys css ∧ Cells w b off css.flatten) ∨ ∃ a cap, v = .slice (some a) 0 cap ∧ ys = []

theorem rel_lens {N : Nat → Prop} {te : Ty} {ys : List te.den} {css : List (List Value)} (h : All2 (fun x c => te.Rel w N x c) ys css) : ∀ c ∈ css, c.length = te.size := fun c hc => by
  obtain ⟨y, _, hy⟩ := h.mem_right c hc
  exact hy.length

theorem rowsOf_rel {h : List Ob} {te : Ty} {x : L} {ys : List te.den} {v : Value} (hh : HSim C β h w) (hr : rowsOf h te x = some (true, ys)) (hx : x.Rel β w (C.N β h) [v]) : LieAt w (C.N β h) te ys v := by
  unfold rowsOf at hr
  split at hr
  · simp only [Option.some.injEq, Prod.mk.injEq, true_and] at hr
    simp only [L.Rel, List.cons.injEq, and_true] at hx
    exact .inl ⟨hx, hr.symm⟩
  · rename_i t zs
    split at hr
    · rename_i e
      subst e
      simp only [Option.some.injEq, Prod.mk.injEq, true_and] at hr
      subst hr
      simp only [L.Rel, Ty.Rel] at hx
      obtain ⟨v', e1, hs⟩ := hx
      simp only [List.cons.injEq, and_true] at e1
      subst e1
      rcases hs with hs | ⟨b, off, cap, css, h1, h2, h3, h4, h5, h6, h7, h8⟩ | ⟨a, cap, h1, h2, _⟩
      · exact .inl hs
      · exact .inr (.inl ⟨b, off, cap, css, h1, h4, h6, h8⟩)
      · exact .inr (.inr ⟨a, cap, h1, h2⟩)
    · cases hr
  · rename_i id ver
    split at hr
    · rename_i e t vv rows wr ho
      split at hr
      · rename_i e1
        subst e1
        simp only [Option.some.injEq, Prod.mk.injEq] at hr
        obtain ⟨hv, rfl⟩ := hr
        have hv := Nat.eq_of_beq_eq_true hv
        have hob := hh.obj _ _ ho
        simp only [Ob.Rel] at hob
        obtain ⟨_, _, hpv, hpz, hpos, hpl, hob⟩ := hob
        simp only [L.Rel] at hx
        obtain ⟨_, _, _, c, hc, _, himp⟩ := hx
        have hsl := himp (by rw [hpv, hv])
        simp only [List.cons.injEq, and_true] at hc
        subst hc
        unfold SlOwn at hsl
        rcases hob with ⟨hnb, hr0, _⟩ | ⟨b, cur, css, hb, hheap, hall, htake, hcap, hrc, _⟩
        · rw [hnb] at hsl
          exact .inl ⟨hsl.1, hr0⟩
        · rw [hb] at hsl
          obtain ⟨h1, o, h2, h3⟩ := hsl
          rw [hpl] at h2 h1
          have ho0 : o = 0 ∨ rows.length = 0 := by
            rcases h3 with h3 | h3
            · left; omega
            · right; omega
          have hcs := (Cells.of_heap hheap).take (rows.length * t.size)
          rw [htake] at hcs
          rcases ho0 with rfl | h0
          · exact .inr (.inl ⟨b, 0, _, css, h2, by omega, hall, hcs⟩)
          · have : rows = [] := List.eq_nil_of_length_eq_zero h0
            subst this
            have : css = [] := by cases css with | nil => rfl | cons _ _ => exact hall.elim
            subst this
            exact .inr (.inl ⟨b, o, _, [], h2, by simp, trivial, Cells.nil⟩)
      · cases hr
    · cases hr
  · rename_i id ver off len
    split at hr
    · rename_i e t vv rows wr ho
      split at hr
      · rename_i e1
        subst e1
        simp only [Option.some.injEq, Prod.mk.injEq, Bool.and_eq_true] at hr
        obtain ⟨⟨hv, hle⟩, rfl⟩ := hr
        have hv := Nat.eq_of_beq_eq_true hv
        have hle := of_decide_eq_true hle
        have hob := hh.obj _ _ ho
        simp only [Ob.Rel] at hob
        obtain ⟨_, _, hpv, hpz, hpos, hpl, hob⟩ := hob
        simp only [L.Rel] at hx
        obtain ⟨_, _, _, c, hc, _, himp⟩ := hx
        have hsl := himp (by rw [hpv, hv])
        simp only [List.cons.injEq, and_true] at hc
        subst hc
        unfold SlOwn at hsl
        rcases hob with ⟨hnb, hr0, _⟩ | ⟨b, cur, css, hb, hheap, hall, htake, hcap, hrc, _⟩
        · rw [hnb] at hsl
          subst hr0
          exact .inl ⟨hsl.1, by simp⟩
        · rw [hb] at hsl
          obtain ⟨h1, o, h2, h3⟩ := hsl
          have hlen : ((rows.drop off).take len).length = len := by simp; omega
          have hcs := (Cells.of_heap hheap).take (rows.length * t.size)
          rw [htake] at hcs
          have hl := rel_lens hall
          have hcs2 := (hcs.drop (off * t.size)).take (len * t.size)
          rw [flatten_drop css hl off, flatten_take _ (fun c hc => hl c (List.mem_of_mem_drop hc)) len, Nat.zero_add] at hcs2
          rcases h3 with h3 | h3
          · refine .inr (.inl ⟨b, o, _, (css.drop off).take len, by rw [hlen]; exact h2, by omega, (hall.drop off).take len, ?_⟩)
            rw [h3, hpz]
            exact hcs2
          · have hl0 : len = 0 := by omega
            subst hl0
            exact .inr (.inl ⟨b, o, _, [], by simpa using h2, by simp, by simp [All2], Cells.nil⟩)
      · cases hr
    · cases hr
  · cases hr

def room : Nat := 140737488355328

theorem zeroCells_toList (z : Array Value) (n : Nat) : (Builtin.zeroCells z n).toList.length = n * z.size := by simp [size_zeroCells]

/-- A new row, with something spare. -/
theorem newArrG {σ : St} {a : Act} {e : TypeId} {t : Ty} {rows : List t.den} {css : List (List Value)} {cs : Array Value} {cap : Nat} (hs : Sim C β σ a w) (hpos : 0 < t.size) (hr : All2 (fun x c => t.Rel w (C.N β σ.h) x c) rows css)
    (hcs : cs.toList.take (rows.length * t.size) = css.flatten) (hsz : cs.size = cap * t.size) (hle : rows.length ≤ cap) (hm : cap ≤ maxLen) :
    ∃ β', Moves β β' ∧ Sim C β' { σ with h := σ.h ++ [.arr e t 0 rows true] } a (w.drew.alloc (.cells cs e)) ∧
      (L.own σ.h.length 0).Rel β' (w.drew.alloc (.cells cs e)) (C.N β' (σ.h ++ [.arr e t 0 rows true])) [.slice (some ⟨w.heap.size, 0, none⟩) rows.length cap] := by
  let p : Pl := ⟨true, false, 0, some w.heap.size, t.size, cap, rows.length⟩
  have hk : Keep (fun _ => False) w (w.drew.alloc (.cells cs e)) := (keep_drew w).trans (keep_alloc w.drew _)
  refine ⟨upd β σ.h.length p, moves_push hs.heap p, hs.push (p := p) (.inr ⟨rfl, by simp⟩) hk ⟨rfl, rfl, rfl⟩ ?_, ?_⟩
  · simp only [Ob.Rel]
    refine ⟨rfl, rfl, rfl, rfl, hpos, rfl, .inr ⟨w.heap.size, cs, css, rfl, ?_, ?_, hcs, hsz, hle, hm⟩⟩
    · exact heap_alloc_new w.drew _
    · exact hr.mono fun _ _ hx => hx.mono (hk.weaken fun _ h => h.elim) fun b hlt hn => owns_push (.inr rfl) hlt hn
  · simp only [L.Rel, upd_same]
    refine ⟨rfl, rfl, Nat.le_refl _, _, rfl, rfl, fun _ => ?_⟩
    unfold SlOwn
    simp only [p]
    exact ⟨by omega, 0, rfl, .inl (by simp)⟩

/-- A row that is nil. -/
theorem newArrNil {σ : St} {a : Act} {e : TypeId} {t : Ty} (hs : Sim C β σ a w) (hpos : 0 < t.size) :
    ∃ β', Moves β β' ∧ Sim C β' { σ with h := σ.h ++ [.arr e t 0 [] true] } a w ∧ (L.own σ.h.length 0).Rel β' w (C.N β' (σ.h ++ [.arr e t 0 [] true])) [.slice none 0 0] := by
  let p : Pl := ⟨true, false, 0, none, t.size, 0, 0⟩
  refine ⟨upd β σ.h.length p, moves_push hs.heap p, hs.push (p := p) (.inl rfl) (Keep.refl _ w) ⟨rfl, rfl, rfl⟩ ?_, ?_⟩
  · simp only [Ob.Rel]
    exact ⟨rfl, rfl, rfl, rfl, hpos, rfl, .inl ⟨rfl, trivial, rfl⟩⟩
  · simp only [L.Rel, upd_same]
    refine ⟨rfl, rfl, Nat.le_refl _, _, rfl, rfl, fun _ => ?_⟩
    unfold SlOwn
    simp only [p]
    exact ⟨trivial, trivial, trivial⟩

theorem cells_addr {b off : Nat} {cs : List Value} (h : Cells w b off cs) : ∀ j u, cs[j]? = some u → w.cell? ((⟨b, off, none⟩ : Addr).add j) = some u := fun j u hu => by
  rw [addr_add]; exact h j u hu

/-- 'append(nil, ys...)'. -/
theorem appendNil_run {σ : St} {a : Act} {st e : TypeId} {ts ti : TI} {te : Ty} {ys : List te.den} {y : Value} (ty : TypeId) (hT : TabOK C.P T) (hst : T.get st = some ts) (hk : ts.k = .slice e) (hti : T.get e = some ti) (hsz : ti.size = te.size) (hpos : 0 < te.size)
    (hby : 0 < ti.bytes) (hroom : ys.length * ti.bytes ≤ room) (hs : Sim C β σ a w) (hy : LieAt w (C.N β σ.h) te ys y) :
    ∃ v' w' β', (Builtin.append_ #[st, st] ty #[.slice none 0 0, y]).run C.P w = .ok v' w' ∧ Moves β β' ∧ Sim C β' { σ with h := σ.h ++ [.arr e te 0 ys true] } a w' ∧ (L.own σ.h.length 0).Rel β' w' (C.N β' (σ.h ++ [.arr e te 0 ys true])) [v'] ∧ Keep (C.N β σ.h) w w' := by
  have hu := (hT _ _ hst).slice hk
  obtain ⟨i, z, hi, his, hib, hz, hzok, hzs, _⟩ := (hT _ _ hti).i
  have hlen : ys.length ≤ ys.length * ti.bytes := Nat.le_mul_of_pos_right _ hby
  unfold room at hroom
  have hnil : ys = [] → y = .slice none 0 0 ∨ (∃ a cap, y = .slice (some a) 0 cap) → (Builtin.append_ #[st, st] ty #[.slice none 0 0, y]).run C.P w = .ok (.slice none 0 0) w := by
    rintro _ (rfl | ⟨a, cap, rfl⟩)
    · simp [Builtin.append_, run_underlying hu, Go.sizeOf, typeInfo, hi, Builtin.lenOf, Builtin.firstCells]
    · simp [Builtin.append_, run_underlying hu, Go.sizeOf, typeInfo, hi, Builtin.lenOf, Builtin.firstCells, loadCells, loadCellsFrom]
  by_cases h0 : ys.length = 0
  · have hys : ys = [] := List.eq_nil_of_length_eq_zero h0
    subst hys
    obtain ⟨β', h1, h2, h3⟩ := newArrNil (e := e) hs hpos
    refine ⟨_, w, β', hnil rfl ?_, h1, h2, h3, Keep.refl _ w⟩
    rcases hy with ⟨hy, _⟩ | ⟨b, off, cap, css, hy, _⟩ | ⟨a, cap, hy, _⟩
    · exact .inl hy
    · exact .inr ⟨⟨b, off, none⟩, cap, hy⟩
    · exact .inr ⟨a, cap, hy⟩
  · rcases hy with ⟨_, hy⟩ | ⟨b, off, cap, css, rfl, hle, hall, hcs⟩ | ⟨_, _, _, hy⟩
    rotate_left 2
    · subst hy; simp at h0
    · subst hy; simp at h0
    · have hl := rel_lens hall
      have hfl : css.flatten.length = ys.length * i.size := by rw [flatten_length css hl, hall.length, his, hsz]
      have hrun := run_append_nil (P := C.P) w st ty e i z hu hi hz ⟨b, off, none⟩ ys.length cap css.flatten hfl (cells_addr hcs) (by omega) (by omega) (by rw [hib]; omega)
      have hge := grownCap_ge w ys.length 0 e
      have hcm := grownCap_le_maxLen w ys.length 0 e (by simp only [maxLen]; omega)
      obtain ⟨β', h1, h2, h3⟩ := newArrG (e := e) (cs := css.flatten.toArray ++ Builtin.zeroCells z.cells (grownCap w ys.length 0 e - ys.length)) (cap := grownCap w ys.length 0 e) hs hpos hall
        (by simp only [Array.toList_append]; rw [List.take_left' (by rw [hfl, his, hsz])])
        (by simp only [Array.size_append, List.size_toArray, size_zeroCells, hzs, hfl, his, hsz, ← Nat.add_mul]; congr 1; omega) hge hcm
      exact ⟨_, _, β', hrun, h1, h2, h3, ((keep_drew w).trans (keep_alloc w.drew _)).weaken fun _ h => h.elim⟩

/-- 'append(xs[:n], ys...)' at an own row. -/
theorem appendOwn_run {σ : St} {a : Act} {st e : TypeId} {ts ti : TI} {te : Ty} {rows ys : List te.den} {x y : Value} {id ver n : Nat} (ty : TypeId) (hT : TabOK C.P T) (hst : T.get st = some ts) (hk : ts.k = .slice e) (hti : T.get e = some ti) (hsz : ti.size = te.size)
    (hby : 0 < ti.bytes) (hroom : (n + ys.length) * ti.bytes ≤ room) (hs : Sim C β σ a w) (ho : σ.h[id]? = some (.arr e te ver rows true)) (hn : n ≤ rows.length) (hx : SlOwn (β id) 0 n x) (hy : LieAt w (C.N β σ.h) te ys y) :
    ∃ v' w' β', (Builtin.append_ #[st, st] ty #[x, y]).run C.P w = .ok v' w' ∧ Moves β β' ∧ Sim C β' { σ with h := σ.h.set id (.arr e te (ver + 1) (rows.take n ++ ys) true) } a w' ∧
      (L.own id (ver + 1)).Rel β' w' (C.N β' (σ.h.set id (.arr e te (ver + 1) (rows.take n ++ ys) true))) [v'] ∧ Keep (C.N β σ.h) w w' := by
  have hu := (hT _ _ hst).slice hk
  obtain ⟨i, z, hi, his, hib, hz, hzok, hzs, _⟩ := (hT _ _ hti).i
  have hlen : n + ys.length ≤ (n + ys.length) * ti.bytes := Nat.le_mul_of_pos_right _ hby
  unfold room at hroom
  have hob := hs.heap.obj _ _ ho
  simp only [Ob.Rel] at hob
  obtain ⟨hlive, hbox, hpv, hpz, hpos, hpl, hob⟩ := hob
  have hrl : (rows.take n ++ ys).length = n + ys.length := by simp; omega
  -- the place behind the step
  have fin : ∀ (w' : World) (bk cap : Nat) (cur : Array Value) (css : List (List Value)), (bk = w.heap.size ∧ w.heap.size < w'.heap.size ∨ (β id).blk = some bk) → Keep (fun k => (β id).blk = some k ∧ True) w w' → Same w w' →
      w'.heap[bk]? = some (.cells cur e (0, 0)) → All2 (fun x c => te.Rel w (C.N β σ.h) x c) (rows.take n ++ ys) css → cur.toList.take ((n + ys.length) * te.size) = css.flatten → cur.size = cap * te.size → n + ys.length ≤ cap → cap ≤ maxLen →
      ∃ β', Moves β β' ∧ Sim C β' { σ with h := σ.h.set id (.arr e te (ver + 1) (rows.take n ++ ys) true) } a w' ∧
        (L.own id (ver + 1)).Rel β' w' (C.N β' (σ.h.set id (.arr e te (ver + 1) (rows.take n ++ ys) true))) [.slice (some ⟨bk, 0, none⟩) (n + ys.length) cap] := by
    intro w' bk cap cur css hbk hkeep hsame hheap hall htake hcsz hle hm
    let p : Pl := ⟨true, false, ver + 1, some bk, te.size, cap, n + ys.length⟩
    have hmv : Moves β (upd β id p) := fun j hj => by
      by_cases hji : j = id
      · subst hji
        rw [upd_same]
        exact .inr ⟨hbox, rfl, rfl, by rw [hpv]; exact Nat.lt_succ_self _⟩
      · exact .inl (upd_other _ _ hji)
    have hpb : p.blk = (β id).blk ∨ p.blk = none ∨ (p.blk = some w.heap.size ∧ w.heap.size < w'.heap.size) := by
      rcases hbk with ⟨e1, h2⟩ | e1
      · right; right; exact ⟨by simp only [p, e1], h2⟩
      · left; simp only [p, e1]
    have hkk : Keep (fun k => (β id).blk = some k ∧ Ob.wr (.arr e te ver rows true) = true) w w' := hkeep.weaken fun k hk => ⟨hk.1, rfl⟩
    refine ⟨upd β id p, hmv, hs.set (p := p) ho (fun _ => rfl) hpb hkk hsame hmv ?_, ?_⟩
    · simp only [Ob.Rel]
      refine ⟨rfl, rfl, rfl, rfl, hpos, hrl.symm, .inr ⟨bk, cur, css, rfl, hheap, ?_, by rw [hrl]; exact htake, hcsz, by rw [hrl]; exact hle, hm⟩⟩
      exact hall.mono fun _ _ h => h.mono (hkk.weaken fun k hk => .inr ⟨id, _, ho, rfl, hk.1⟩) fun k hlt hn => owns_set (w := w) ho (fun _ => rfl) (hpb.imp (fun h => h) (·.imp (fun h => h) (·.1))) hlt hn
    · simp only [L.Rel, upd_same]
      refine ⟨rfl, rfl, Nat.le_refl _, _, rfl, rfl, fun _ => ?_⟩
      unfold SlOwn
      simp only [p]
      exact ⟨by omega, 0, rfl, .inl (by simp)⟩
  have toK : ∀ {w' : World}, Keep (fun k => (β id).blk = some k ∧ True) w w' → Keep (C.N β σ.h) w w' := fun h => h.weaken fun k hk => .inr ⟨id, _, ho, rfl, hk.1⟩
  rcases hob with ⟨hnb, hr0, hcap0⟩ | ⟨b, cur, css, hb, hheap, hall, htake, hcap, hrc, hcm⟩
  · -- nil till now
    subst hr0
    have hn0 : n = 0 := by simpa using hn
    subst hn0
    unfold SlOwn at hx
    rw [hnb] at hx
    obtain ⟨rfl, _, _⟩ := hx
    by_cases h0 : ys.length = 0
    · have hys : ys = [] := List.eq_nil_of_length_eq_zero h0
      subst hys
      have hrun : (Builtin.append_ #[st, st] ty #[.slice none 0 0, y]).run C.P w = .ok (.slice none 0 0) w := by
        rcases hy with ⟨rfl, _⟩ | ⟨b, off, cap, css, rfl, _⟩ | ⟨_, _, rfl, _⟩
        · simp [Builtin.append_, run_underlying hu, Go.sizeOf, typeInfo, hi, Builtin.lenOf, Builtin.firstCells]
        · simp [Builtin.append_, run_underlying hu, Go.sizeOf, typeInfo, hi, Builtin.lenOf, Builtin.firstCells, loadCells, loadCellsFrom]
        · simp [Builtin.append_, run_underlying hu, Go.sizeOf, typeInfo, hi, Builtin.lenOf, Builtin.firstCells, loadCells, loadCellsFrom]
      let p : Pl := ⟨true, false, ver + 1, none, te.size, 0, 0⟩
      have hmv : Moves β (upd β id p) := fun j hj => by
        by_cases hji : j = id
        · subst hji
          rw [upd_same]
          exact .inr ⟨hbox, rfl, rfl, by rw [hpv]; exact Nat.lt_succ_self _⟩
        · exact .inl (upd_other _ _ hji)
      refine ⟨_, w, upd β id p, hrun, hmv, hs.set (p := p) ho (fun _ => rfl) (.inr (.inl rfl)) (Keep.refl _ w) ⟨rfl, rfl, rfl⟩ hmv ?_, ?_, Keep.refl _ w⟩
      · simp only [Ob.Rel]
        exact ⟨rfl, rfl, rfl, rfl, hpos, by simp [p], .inl ⟨rfl, by simp, rfl⟩⟩
      · simp only [L.Rel, upd_same]
        refine ⟨rfl, rfl, Nat.le_refl _, _, rfl, rfl, fun _ => ?_⟩
        unfold SlOwn
        simp only [p]
        exact ⟨trivial, trivial, trivial⟩
    · rcases hy with ⟨_, hy⟩ | ⟨b, off, cap, css, rfl, hle, hall, hcs⟩ | ⟨_, _, _, hy⟩
      rotate_left 2
      · subst hy; simp at h0
      · subst hy; simp at h0
      · have hl := rel_lens hall
        have hfl : css.flatten.length = ys.length * i.size := by rw [flatten_length css hl, hall.length, his, hsz]
        have hrun := run_append_nil (P := C.P) w st ty e i z hu hi hz ⟨b, off, none⟩ ys.length cap css.flatten hfl (cells_addr hcs) (by omega) (by omega) (by rw [hib]; rw [Nat.zero_add] at hroom; omega)
        have hge := grownCap_ge w ys.length 0 e
        have hcm := grownCap_le_maxLen w ys.length 0 e (by simp only [maxLen]; omega)
        have hk0 : Keep (fun _ => False) w (w.drew.alloc (.cells (css.flatten.toArray ++ Builtin.zeroCells z.cells (grownCap w ys.length 0 e - ys.length)) e)) := (keep_drew w).trans (keep_alloc w.drew _)
        have hk1 := hk0.weaken (N' := fun k => (β id).blk = some k ∧ True) fun _ h => h.elim
        obtain ⟨β', h1, h2, h3⟩ := fin _ w.heap.size (grownCap w ys.length 0 e) _ css (.inl ⟨rfl, by simp⟩) hk1 ⟨rfl, rfl, rfl⟩ (heap_alloc_new w.drew _) (by simpa using hall)
          (by simp only [Array.toList_append, Nat.zero_add]; rw [List.take_left' (by rw [hfl, his, hsz])])
          (by simp only [Array.size_append, List.size_toArray, size_zeroCells, hzs, hfl, his, hsz, ← Nat.add_mul]; congr 1; omega) (by omega) hcm
        rw [Nat.zero_add] at h3
        exact ⟨_, _, β', hrun, h1, h2, h3, toK hk1⟩
  · unfold SlOwn at hx
    rw [hb] at hx
    obtain ⟨h1, o, rfl, h3⟩ := hx
    have ho0 : o = 0 := by
      rcases h3 with h3 | h3
      · simpa using h3
      · omega
    subst ho0
    rw [Nat.sub_zero]
    have hl := rel_lens hall
    have hlx := hall.take n
    -- the new elements' cells
    obtain ⟨cssy, b2, off2, cap2, hrow, hally, hcsy⟩ : ∃ cssy b2 off2 cap2, (ys.length = 0 ∨ y = .slice (some ⟨b2, off2, none⟩) ys.length cap2) ∧ All2 (fun x c => te.Rel w (C.N β σ.h) x c) ys cssy ∧ Cells w b2 off2 cssy.flatten := by
      rcases hy with ⟨_, hy⟩ | ⟨b2, off2, cap2, cssy, hy, _, hy2, hy3⟩ | ⟨_, _, _, hy⟩
      · subst hy; exact ⟨[], 0, 0, 0, .inl rfl, trivial, Cells.nil⟩
      · exact ⟨cssy, b2, off2, cap2, .inr hy, hy2, hy3⟩
      · subst hy; exact ⟨[], 0, 0, 0, .inl rfl, trivial, Cells.nil⟩
    have hly := rel_lens hally
    have hfy : cssy.flatten.length = ys.length * i.size := by rw [flatten_length cssy hly, hally.length, his, hsz]
    have hcsn : cur.toList.take (n * te.size) = (css.take n).flatten := by
      rw [← flatten_take css hl n, ← htake, List.take_take, Nat.min_eq_left (Nat.mul_le_mul_right _ hn)]
    have hln : (css.take n).flatten.length = n * te.size := by
      rw [flatten_length _ (fun c hc => hl c (List.mem_of_mem_take hc)), List.length_take, ← hall.length, Nat.min_eq_left hn]
    have hone : ∀ u ∈ cssy.flatten, u.oneCell' = true := fun u hu => by
      obtain ⟨c, hc, huc⟩ := List.mem_flatten.1 hu
      obtain ⟨q, _, hq⟩ := hally.mem_right c hc
      exact hq.one u huc
    by_cases hr : n + ys.length ≤ (β id).cap
    · -- room
      have hmul : (n + ys.length) * te.size ≤ (β id).cap * te.size := Nat.mul_le_mul_right _ hr
      have hadd : (n + ys.length) * te.size = n * te.size + ys.length * te.size := Nat.add_mul _ _ _
      have hrun : (Builtin.append_ #[st, st] ty #[.slice (some ⟨b, 0, none⟩) n (β id).cap, y]).run C.P w =
          .ok (.slice (some ⟨b, 0, none⟩) (n + ys.length) (β id).cap) (w.setRow b (cur.toList.take (n * i.size) ++ cssy.flatten ++ cur.toList.drop (n * i.size + cssy.flatten.length)).toArray) := by
        rcases hy with ⟨rfl, hy⟩ | ⟨b3, off3, cap3, cssy3, rfl, _, hy2, hy3⟩ | ⟨a3, cap3, rfl, hy⟩
        rotate_left 2
        · subst hy
          have : cssy = [] := by cases cssy with | nil => rfl | cons _ _ => exact hally.elim
          subst this
          have hroom2 : n + 0 ≤ (β id).cap := hr
          exact run_append_room (P := C.P) w st ty e i hu hi b n (β id).cap cur hheap a3 0 cap3 [] (by simp) (by simp) (by simp) hroom2 (by simp; rw [his, hsz]; simp at hmul; omega)
        · subst hy
          have : cssy = [] := by cases cssy with | nil => rfl | cons _ _ => exact hally.elim
          subst this
          simp only [List.flatten_nil, List.append_nil, List.length_nil, Nat.add_zero, List.take_append_drop, Array.toArray_toList, setRow_self w b cur e (0, 0) hheap]
          simp [Builtin.append_, run_underlying hu, Go.sizeOf, typeInfo, hi, Builtin.lenOf, Builtin.firstCells, storeCells]
          omega
        · rcases hrow with h0 | hrow
          · have : ys = [] := List.eq_nil_of_length_eq_zero h0
            subst this
            have : cssy = [] := by cases cssy with | nil => rfl | cons _ _ => exact hally.elim
            subst this
            have hroom2 : n + 0 ≤ (β id).cap := hr
            exact run_append_room (P := C.P) w st ty e i hu hi b n (β id).cap cur hheap ⟨b3, off3, none⟩ 0 cap3 [] (by simp) (by simp) (by simp) hroom2 (by simp; rw [his, hsz]; simp at hmul; omega)
          · simp only [Value.slice.injEq, Option.some.injEq, Addr.mk.injEq, and_true, true_and] at hrow
            obtain ⟨⟨rfl, rfl⟩, rfl⟩ := hrow
            exact run_append_room (P := C.P) w st ty e i hu hi b n (β id).cap cur hheap _ ys.length cap3 cssy.flatten hfy (cells_addr hcsy) hone hr (by rw [hfy, his, hsz]; omega)
      have hk1 : Keep (fun k => (β id).blk = some k ∧ True) w (w.setRow b (cur.toList.take (n * i.size) ++ cssy.flatten ++ cur.toList.drop (n * i.size + cssy.flatten.length)).toArray) := keep_setRow.weaken fun k hk => by subst hk; exact ⟨hb, trivial⟩
      obtain ⟨β', g1, g2, g3⟩ := fin _ b (β id).cap _ (css.take n ++ cssy) (.inr hb) hk1 same_setRow (setRow_heap w b _ _ e _ hheap) (hlx.append hally)
        (by
          rw [his, hsz, hcsn, List.flatten_append]
          exact List.take_left' (by rw [List.length_append, hln, hfy, his, hsz, hadd]))
        (by
          simp only [List.size_toArray, List.length_append, List.length_take, List.length_drop, Array.length_toList, hfy, his, hsz]
          omega) hr hcm
      exact ⟨_, _, β', hrun, g1, g2, g3, toK hk1⟩
    · -- it grows
      have hpos2 : 0 < ys.length := by omega
      rcases hrow with h0 | rfl
      · omega
      · have holds : ∀ j u, (css.take n).flatten[j]? = some u → w.cell? ((⟨b, 0, none⟩ : Addr).add j) = some u := cells_addr (by rw [← hcsn]; exact (Cells.of_heap hheap).take _)
        have hrun := run_append_grow (P := C.P) w st ty e i z hu hi hz ⟨b, 0, none⟩ n (β id).cap (css.take n).flatten (by rw [hln, his, hsz]) holds ⟨b2, off2, none⟩ ys.length cap2 cssy.flatten hfy (cells_addr hcsy) (by omega) (by omega)
          (growslice_fits (by omega) (by rw [hib]; exact hroom))
        have hge := grownCap_ge w (n + ys.length) (β id).cap e
        have hcm' := grownCap_le_maxLen w (n + ys.length) (β id).cap e (by simp only [maxLen]; omega)
        have hk0 : Keep (fun _ => False) w (w.drew.alloc (.cells ((css.take n).flatten.toArray ++ cssy.flatten.toArray ++ Builtin.zeroCells z.cells (grownCap w (n + ys.length) (β id).cap e - (n + ys.length))) e)) := (keep_drew w).trans (keep_alloc w.drew _)
        have hk1 := hk0.weaken (N' := fun k => (β id).blk = some k ∧ True) fun _ h => h.elim
        obtain ⟨β', g1, g2, g3⟩ := fin _ w.heap.size (grownCap w (n + ys.length) (β id).cap e) _ (css.take n ++ cssy) (.inl ⟨rfl, by simp⟩) hk1 ⟨rfl, rfl, rfl⟩ (heap_alloc_new w.drew _) (hlx.append hally)
          (by
            simp only [Array.toList_append, List.flatten_append]
            exact List.take_left' (by rw [List.length_append, hln, hfy, his, hsz, ← Nat.add_mul]))
          (by
            simp only [Array.size_append, List.size_toArray, size_zeroCells, hzs, hfy, hln, his, hsz, ← Nat.add_mul]
            congr 1; omega) hge hcm'
        exact ⟨_, _, β', hrun, g1, g2, g3, toK hk1⟩

end
end Go.Dec

namespace Go.Dec

def Ty.cmp : Ty → Bool
  | .unit | .bool | .int _ | .str => true
  | .pair a b => a.cmp && b.cmp
  | .arr _ a => a.cmp
  | _ => false

def beqL {α : Type} (f : α → α → Bool) : List α → List α → Bool
  | [], [] => true
  | x :: xs, y :: ys => f x y && beqL f xs ys
  | _, _ => false

def Ty.beq : (t : Ty) → t.den → t.den → Bool
  | .unit, _, _ => true
  | .bool, a, b => Bool.beq' a b
  | .int _, a, b => Int.beq' a b
  | .str, a, b => List.beq' a b
  | .pair a b, x, y => a.beq x.1 y.1 && b.beq x.2 y.2
  | .arr _ a, x, y => beqL (fun u v => a.beq u v) x y
  | _, _, _ => false
where
  Bool.beq' (a b : Bool) : Bool := a == b
  Int.beq' (a b : Int) : Bool := a == b
  List.beq' (a b : List UInt8) : Bool := a == b

/-- The value of these cells. -/
def valOf (agg : Bool) (cs : List Value) : Value := if agg then .agg cs.toArray else cs.getD 0 undef

section
variable {P : Program} {w : World} {N : Nat → Prop}

theorem tyOf_isAgg : ∀ {n : Nat} {t : TypeId} {ty : Ty} {d : TypeDesc}, tyOf P n t = some ty → P.underlying t = some d → ty.cmp = true → ty.isAgg = (TK.of d).isAgg
  | 0, _, _, _, h, _, _ => by simp [tyOf] at h
  | n + 1, t, ty, d, h, hd, hc => by
    simp only [tyOf, hd] at h
    cases d <;> simp only [Option.some.injEq, reduceCtorEq, Option.map_eq_some_iff] at h
    case bool => subst h; rfl
    case int => subst h; rfl
    case string => subst h; rfl
    case slice => obtain ⟨a, _, rfl⟩ := h; simp [Ty.cmp] at hc
    case array => obtain ⟨a, _, rfl⟩ := h; rfl
    case func => subst h; simp [Ty.cmp] at hc
    case interface => subst h; simp [Ty.cmp] at hc
    case struct fs =>
      revert h
      generalize fs.toList = l
      cases l with
      | nil => intro h; simp at h; subst h; rfl
      | cons f l =>
        intro h
        simp only [List.foldr_cons] at h
        split at h
        · simp only [Option.some.injEq] at h; subst h; rfl
        · cases h

theorem part_run {t : TypeId} {ty : Ty} {n : Nat} {d : TypeDesc} {x : ty.den} {cx : List Value} {all : List Value} {off : Nat} (ht : tyOf P n t = some ty) (hd : P.underlying t = some d) (hc : ty.cmp = true) (hsz : ty.size = P.cellsOf t) (hx : ty.Rel w N x cx)
    (hat : (all.drop off).take cx.length = cx) : (part t all.toArray off).run P w = .ok (valOf ty.isAgg cx) w := by
  have hag := tyOf_isAgg ht hd hc
  have hl := hx.length
  have hrun : (isAgg t).run P w = .ok (TK.of d).isAgg w := by
    simp only [isAgg, Sem.run_bind, run_underlying hd, Result.andThen_ok]
    cases d <;> rfl
  simp only [part, Sem.run_bind, hrun, Result.andThen_ok]
  rw [← hag]
  cases h : ty.isAgg with
  | true =>
    have hi : ∃ i, P.info? t = some i := by
      unfold Program.underlying at hd
      split at hd
      · rename_i h1; exact ⟨_, h1⟩
      · rename_i i h1; exact ⟨_, h1⟩
      · cases hd
    obtain ⟨i, hi⟩ := hi
    have hsz2 : (sizeOf t).run P w = .ok (P.cellsOf t) w := by simp [sizeOf, typeInfo, hi, Program.cellsOf]
    simp only [if_true, Sem.run_bind, hsz2, Result.andThen_ok, Sem.run_pure, valOf]
    congr 2
    rw [← hsz, ← hl]
    apply Array.toList_inj.1
    simp only [Array.toList_extract, List.extract_eq_take_drop]
    rw [show off + cx.length - off = cx.length by omega]
    exact hat
  | false =>
    have h1 : cx.length = 1 := by
      rw [hl]
      cases ty <;> first | rfl | simp [Ty.isAgg] at h
    match cx, h1 with
    | [c], _ =>
      have hc0 : all[off]? = some c := by
        have := congrArg (fun l => l[0]?) hat
        simp only [List.getElem?_take, List.getElem?_drop, List.length_singleton, Nat.lt_add_one, if_true, Nat.add_zero, List.getElem?_cons_zero] at this
        exact this
      simp [valOf, hc0]

/-- Two arrays' elements. -/
theorem range_beq {α : Type} (f : α → α → Bool) (w : World) (step : Nat → Option Bool × Unit → Sem (ForInStep (Option Bool × Unit))) : ∀ (xs ys : List α), xs.length = ys.length → ∀ k,
    (∀ i (h : i < xs.length) (h' : i < ys.length), (step (k + i) (none, ())).run P w = .ok (if f xs[i] ys[i] = true then .yield (none, ()) else .done (some false, ())) w) →
    (forIn (List.range' k xs.length) (none, ()) step).run P w = .ok (if beqL f xs ys = true then (none, ()) else (some false, ())) w
  | [], [], _, k, _ => by simp [beqL]
  | x :: xs, y :: ys, hl, k, h => by
    have h0 := h 0 (by simp) (by simp)
    simp only [Nat.add_zero, List.getElem_cons_zero] at h0
    simp only [List.length_cons, List.range'_succ, List.forIn_cons, Sem.run_bind, h0, Result.andThen_ok, beqL]
    rcases Bool.eq_false_or_eq_true (f x y) with hf | hf
    case inr => simp [hf]
    case inl =>
      simp only [hf, if_true, Bool.true_and]
      exact range_beq f w step xs ys (by simpa using hl) (k + 1) fun i h1 h2 => by
        have := h (i + 1) (by simp; omega) (by simp; omega)
        simpa [Nat.add_assoc, Nat.add_comm 1 i] using this
  | [], _ :: _, hl, _, _ => by simp at hl
  | _ :: _, [], hl, _, _ => by simp at hl

def foldTy (P : Program) (n : Nat) (fs : List Field) : Option Ty := fs.foldr (fun f r => match tyOf P n f.type, r with | some a, some b => some (.pair a b) | _, _ => none) (some .unit)

theorem equal_struct {n : Nat} (ih : ∀ (t : TypeId) (ty : Ty) (x y : ty.den) (cx cy : List Value) (d : Nat), n ≤ d → tyOf P n t = some ty → eqsOf P n t = true → ty.cmp = true → ty.Rel w N x cx → ty.Rel w N y cy →
      (Op.equalIn d t (valOf ty.isAgg cx) (valOf ty.isAgg cy)).run P w = .ok (ty.beq x y) w) (d : Nat) (hd : n ≤ d) (ax ay : List Value) :
    ∀ (fs : List Field) (off : Nat) (ty : Ty) (x y : ty.den) (cx cy : List Value), foldTy P n fs = some ty → eqF P (eqsOf P n) (tyOf P n) off fs = true → ty.cmp = true → ty.Rel w N x cx → ty.Rel w N y cy → ax.drop off = cx → ay.drop off = cy →
      (Op.eqFields d ax.toArray ay.toArray fs).run P w = .ok (ty.beq x y) w
  | [], off, ty, x, y, cx, cy, ht, he, hc, hx, hy, hax, hay => by
    simp only [foldTy, List.foldr_nil, Option.some.injEq] at ht
    subst ht
    simp [Op.eqFields, Ty.beq]
  | f :: fs, off, ty, x, y, cx, cy, ht, he, hc, hx, hy, hax, hay => by
    simp only [foldTy, List.foldr_cons] at ht
    split at ht
    · rename_i _ a b hta htb
      simp only [Option.some.injEq] at ht
      subst ht
      simp only [eqF, Bool.and_eq_true, hta] at he
      obtain ⟨⟨⟨⟨h1, h2⟩, h3⟩, h4⟩, h5⟩ := he
      have h1 : f.offset = off := by simpa using h1
      have h2 : f.name ≠ "_" := by simpa using h2
      have h4 : a.size = P.cellsOf f.type := by simpa using h4
      simp only [Ty.cmp, Bool.and_eq_true] at hc
      obtain ⟨c1, c2, e1, hx1, hx2⟩ := hx
      obtain ⟨d1, d2, e2, hy1, hy2⟩ := hy
      obtain ⟨dsc, hdsc⟩ : ∃ dsc, P.underlying f.type = some dsc := by
        cases hu : P.underlying f.type with
        | some d => exact ⟨d, rfl⟩
        | none =>
          cases n with
          | zero => simp [tyOf] at hta
          | succ n => simp [tyOf, hu] at hta
      have hp1 := part_run (all := ax) (off := off) hta hdsc hc.1 h4 hx1 (by rw [hax, e1, List.take_left])
      have hp2 := part_run (all := ay) (off := off) hta hdsc hc.1 h4 hy1 (by rw [hay, e2, List.take_left])
      have hq := ih f.type a x.1 y.1 c1 d1 d hd hta h3 hc.1 hx1 hy1
      simp only [Op.eqFields, h2, ne_eq, not_false_eq_true, if_true, Sem.run_bind, h1, hp1, hp2, hq, Result.andThen_ok]
      cases hb : a.beq x.1 y.1 with
      | false => simp [Ty.beq, hb]
      | true =>
        simp only [Bool.not_true, Bool.false_eq_true, if_false]
        have := equal_struct ih d hd ax ay fs (off + P.cellsOf f.type) b x.2 y.2 c2 d2 htb h5 hc.2 hx2 hy2
          (by rw [← h4, ← hx1.length, ← List.drop_drop, hax, e1, List.drop_left]) (by rw [← h4, ← hy1.length, ← List.drop_drop, hay, e2, List.drop_left])
        rw [this]
        simp [Ty.beq, hb]
    · cases ht

theorem equal_run : ∀ (n : Nat) (t : TypeId) (ty : Ty) (x y : ty.den) (cx cy : List Value) (d : Nat), n ≤ d → tyOf P n t = some ty → eqsOf P n t = true → ty.cmp = true → ty.Rel w N x cx → ty.Rel w N y cy →
      (Op.equalIn d t (valOf ty.isAgg cx) (valOf ty.isAgg cy)).run P w = .ok (ty.beq x y) w
  | 0, _, _, _, _, _, _, _, _, h, _, _, _, _ => by simp [tyOf] at h
  | n + 1, t, ty, x, y, cx, cy, 0, hd, _, _, _, _, _ => by omega
  | n + 1, t, ty, x, y, cx, cy, d + 1, hd, ht, he, hc, hx, hy => by
    simp only [tyOf] at ht
    simp only [eqsOf] at he
    split at ht
    · rename_i hu
      simp only [Option.some.injEq] at ht
      subst ht
      simp only [Ty.Rel] at hx hy
      subst hx hy
      simpa [valOf, Ty.isAgg, Ty.beq, Ty.beq.Bool.beq'] using run_equalIn_bool' w d t x y hu
    · rename_i k hu
      simp only [Option.some.injEq] at ht
      subst ht
      simp only [Ty.Rel] at hx hy
      subst hx hy
      simpa [valOf, Ty.isAgg, Ty.beq, Ty.beq.Int.beq'] using run_equalIn_int w d t k k x y hu
    · rename_i hu
      simp only [Option.some.injEq] at ht
      subst ht
      simp only [Ty.Rel] at hx hy
      subst hx hy
      have := run_equalIn_string (P := P) w d t ⟨x.toArray⟩ ⟨y.toArray⟩ hu
      rw [toList_mk, toList_mk] at this
      simpa [valOf, Ty.isAgg, Ty.beq, Ty.beq.List.beq'] using this
    · rename_i e hu
      cases hte : tyOf P n e with
      | none => rw [hte] at ht; cases ht
      | some a => rw [hte] at ht; simp only [Option.map_some, Option.some.injEq] at ht; subst ht; simp [Ty.cmp] at hc
    · rename_i k e hu
      cases hte : tyOf P n e with
      | none => rw [hte] at ht; cases ht
      | some a =>
        rw [hte] at ht
        simp only [Option.map_some, Option.some.injEq] at ht
        subst ht
        simp only [hu, hte, Bool.and_eq_true, beq_iff_eq] at he
        simp only [Ty.cmp] at hc
        obtain ⟨hxl, cssx, rfl, hax⟩ := hx
        obtain ⟨hyl, cssy, rfl, hay⟩ := hy
        have hlx := rel_lens hax
        have hly := rel_lens hay
        obtain ⟨dsc, hdsc⟩ : ∃ dsc, P.underlying e = some dsc := by
          cases hu : P.underlying e with
          | some d => exact ⟨d, rfl⟩
          | none =>
            cases n with
            | zero => simp [tyOf] at hte
            | succ n => simp [tyOf, hu] at hte
        obtain ⟨i, hi⟩ : ∃ i, P.info? e = some i := by
          unfold Program.underlying at hdsc
          split at hdsc
          · rename_i h1; exact ⟨_, h1⟩
          · rename_i i h1; exact ⟨_, h1⟩
          · cases hdsc
        have hsz2 : (sizeOf e).run P w = .ok (P.cellsOf e) w := by simp [sizeOf, typeInfo, hi, Program.cellsOf]
        have hagg : (Ty.arr k a).isAgg = true := rfl
        simp only [hagg, valOf, if_true, Op.equalIn, Sem.run_bind, run_underlying hu, Result.andThen_ok, hsz2]
        rw [Std.Legacy.Range.forIn_eq_forIn_range']
        have hrange : Std.Legacy.Range.size { stop := k, step_pos := Nat.one_pos } = x.length := by simp [Std.Legacy.Range.size, hxl]
        simp only [hrange]
        rw [range_beq (fun u v => a.beq u v) w _ x y (by rw [hxl, hyl]) 0 (fun i h1 h2 => by
          have h1' : i < cssx.length := by rw [← hax.length]; exact h1
          have h2' : i < cssy.length := by rw [← hay.length]; exact h2
          have r1 := hax.get i h1 h1'
          have r2 := hay.get i h2 h2'
          have seg : ∀ (css : List (List Value)) (h : i < css.length), (∀ c ∈ css, c.length = a.size) → (css.flatten.drop (i * a.size)).take css[i].length = css[i] := fun css h hl => by
            rw [flatten_drop css hl i, List.drop_eq_getElem_cons h, List.flatten_cons, List.take_left]
          have p1 := part_run (all := cssx.flatten) (off := i * a.size) hte hdsc hc he.2 r1 (seg cssx h1' hlx)
          have p2 := part_run (all := cssy.flatten) (off := i * a.size) hte hdsc hc he.2 r2 (seg cssy h2' hly)
          have q := equal_run n e a x[i] y[i] cssx[i] cssy[i] d (by omega) hte he.1 hc r1 r2
          simp only [Nat.zero_add, Sem.run_bind, ← he.2, p1, p2, Result.andThen_ok, q]
          rcases Bool.eq_false_or_eq_true (a.beq x[i] y[i]) with hb | hb <;> simp [hb])]
        simp only [Ty.beq]
        rcases Bool.eq_false_or_eq_true (beqL (fun u v => a.beq u v) x y) with hb | hb <;> simp [hb]
    · rename_i fs hu
      have hf : P.fieldsOf t = fs := by simp [Program.fieldsOf, hu]
      simp only [hu, Bool.and_eq_true, Bool.not_eq_true'] at he
      have hagg : ty.isAgg = true := by
        have := tyOf_isAgg (n := n + 1) (t := t) (by simp only [tyOf, hu]; exact ht) hu hc
        simpa [TK.of, TK.isAgg] using this
      rw [hagg]
      simp only [valOf, if_true]
      rw [run_equalIn_struct w d t _ _ (by rw [hf]; exact hu) he.1, hf]
      exact equal_struct (equal_run n) d (by omega) cx cy fs.toList 0 ty x y cx cy ht he.2 hc hx hy rfl rfl
    · simp only [Option.some.injEq] at ht; subst ht; simp [Ty.cmp] at hc
    · simp only [Option.some.injEq] at ht; subst ht; simp [Ty.cmp] at hc
    · cases ht
end
end Go.Dec

namespace Go.Dec

def isNilC : Operand → Bool
  | .const (.pointer none) | .const .nilIface | .const .nilFunc | .const (.slice none 0 0) => true
  | _ => false

/-- 'x == nil', by the kind of x's type. -/
def eqNilT (k : TK) (x : L) (c : Operand) : Option Bool :=
  match k, c, x with
  | .ptr _, .const (.pointer none), .nilp => some true
  | .ptr _, .const (.pointer none), .ptr .. => some false
  | .ptr _, .const (.pointer none), .aptr .. => some false
  | .ptr _, .const (.pointer none), .rptr .. => some false
  | .iface _, .const .nilIface, .val .err b => some (!b)
  | .func, .const .nilFunc, .clo .. => some false
  | .slice _, .const (.slice none 0 0), .nils => some true
  | _, _, _ => none

def eqV (T : Tab) (xt : TypeId) (a b : List L) : Option Bool :=
  match T.get xt with
  | some ti =>
    match ti.ty with
    | some ty =>
      if ti.eqs && ty.cmp && ty.isAgg then
        match implode ty a, implode ty b with
        | some (x, []), some (y, []) => some (ty.beq x y)
        | _, _ => none
      else none
    | none => none
  | none => none

def isEq : BinOp → Bool
  | .eql | .neq => true
  | _ => false

def sgn (op : BinOp) (b : Bool) : Bool :=
  match op with
  | .neq => !b
  | _ => b

def binV (T : Tab) (σ : St) (op : BinOp) (xt : TypeId) (x y : Operand) : Option (Bool × V) :=
  if isEq op && isNilC y then
    match ovl σ x, T.get xt with
    | .one l, some ti =>
      match eqNilT ti.k l y with
      | some b => some (true, .one (.val .bool (sgn op b)))
      | none => none
    | _, _ => none
  else
    match ovl σ x, ovl σ y with
    | .one a, .one b =>
      match a, b with
      | .val .bool p, .val .bool q =>
        match T.get xt with
        | some ti => match ti.k with
          | .bool => match bBool op p q with
            | some (c, r) => some (c, .one r)
            | none => none
          | _ => none
        | none => none
      | a, b => match bin op a b with
        | some (c, r) => some (c, .one r)
        | none => none
    | .agg a, .agg b =>
      if isEq op then
        match eqV T xt a b with
        | some r => some (true, .one (.val .bool (sgn op r)))
        | none => none
      else none
    | _, _ => none

def convV (T : Tab) (σ : St) (s d : TypeId) (x : Operand) : Option (Bool × V) :=
  match T.get s, T.get d, ovl σ x with
  | some ts, some td, .one l =>
    match td.k, ts.k, l with
    | .int k, .int _, .val (.int _) n => some (true, .one (.val (.int k) (k.wrap n)))
    | .str, .str, .val .str s => some (true, .one (.val .str s))
    | _, _, _ => none
  | _, _, _ => none

/-- 'build' of a struct. -/
def vals (σ : St) : List (Nat × Operand) → List (Nat × V)
  | [] => []
  | (i, x) :: r => (i, ovl σ x) :: vals σ r

def buildV (T : Tab) (σ : St) (t : TypeId) (parts : List (Nat × Operand)) : Option (Bool × V) :=
  match T.get t with
  | some ti =>
    match ti.k with
    | .struct fs =>
      if fs.all fun p => (T.get p.2).isSome then
        match build T fs ti.zls (vals σ parts) with
        | some ls => some (true, .agg ls)
        | none => none
      else none
    | _ => none
  | none => none

/-- A row's elements, one operand each, in order. -/
def elems (σ : St) (te : Ty) : Nat → List (Nat × Operand) → Option (List te.den)
  | _, [] => some []
  | k, (i, x) :: r =>
    if Nat.beq i k then
      match (ovl σ x).leaves with
      | some ls =>
        match implode te ls, elems σ te (k + 1) r with
        | some (y, []), some ys => some (y :: ys)
        | _, _ => none
      | none => none
    else none

def elemTy (T : Tab) (t : TypeId) : Option (TypeId × Ty × TI) :=
  match T.get t with
  | some ts =>
    match ts.k with
    | .slice e =>
      match T.get e with
      | some ti =>
        match ti.ty with
        | some te => if Nat.beq ti.size te.size && Nat.ble 1 te.size && Nat.ble 1 ti.bytes then some (e, te, ti) else none
        | none => none
      | none => none
    | _ => none
  | none => none

def lenV (T : Tab) (σ : St) (t : TypeId) (x : Operand) : Option (Bool × V) :=
  match T.get t, ovl σ x with
  | some ti, .one l =>
    match ti.k with
    | .arr n _ => some (true, .one (.val (.int .i64) (n : Int)))
    | .str => match l with
      | .val .str s => some (true, .one (.val (.int .i64) (s.length : Int)))
      | _ => none
    | .slice _ => match slLen σ.h (l.view σ.h) with
      | some (c, n) => some (c, .one (.val (.int .i64) n))
      | none => none
    | _ => none
  | _, _ => none

def appendV (T : Tab) (σ : St) (t : TypeId) (s x : Operand) : Option (Bool × V × List Ob) :=
  match elemTy T t, ovl σ s, ovl σ x with
  | some (e, te, ti), .one ls, .one lx =>
    match rowsOf σ.h te lx with
    | some (c, ys) =>
      match ls with
      | .nils => some (c && Nat.ble (ys.length * ti.bytes) room, .one (.own σ.h.length 0), σ.h ++ [.arr e te 0 ys true])
      | .own id ver =>
        match σ.h[id]? with
        | some (.arr e' t' v rows true) => if h : t' = te ∧ e' = e then
            some (c && (Nat.beq v ver && Nat.ble ((rows.length + ys.length) * ti.bytes) room), .one (.own id (ver + 1)), σ.h.set id (.arr e te (ver + 1) ((h.1 ▸ rows) ++ ys) true))
          else none
        | _ => none
      | .sl id ver off len =>
        match σ.h[id]? with
        | some (.arr e' t' v rows true) => if h : t' = te ∧ e' = e then
            some (c && (Nat.beq v ver && (Nat.beq off 0 && (Nat.ble len rows.length && Nat.ble ((len + ys.length) * ti.bytes) room))), .one (.own id (ver + 1)), σ.h.set id (.arr e te (ver + 1) ((h.1 ▸ rows).take len ++ ys) true))
          else none
        | _ => none
      | _ => none
    | none => none
  | _, _, _ => none

def sToBytes (s : List UInt8) : List Int := s.map fun b => (b.toNat : Int)

/-- 'append(b, s...)', 's' a text. -/
def appendS (T : Tab) (σ : St) (t t' : TypeId) (s x : Operand) : Option (Bool × V × List Ob) :=
  match elemTy T t, T.get t', ovl σ s, ovl σ x with
  | some (e, _, ti), some tx, .one (.own id ver), .one (.val .str u) =>
    match tx.k, σ.h[id]? with
    | .str, some (.arr e' (.int .u8) v rows true) =>
      some (Nat.beq e' e && (Nat.beq ti.size 1 && (Nat.beq v ver && Nat.ble ((rows.length + u.length) * ti.bytes) room)), .one (.own id (ver + 1)), σ.h.set id (.arr e' (.int .u8) (ver + 1) (rows ++ sToBytes u) true))
    | _, _ => none
  | _, _, _, _ => none

def stepOp (T : Tab) (σ : St) (o : Oper) : Option (Bool × V × List Ob) :=
  match o.op with
  | .move x => some (true, ovl σ x, σ.h)
  | .assign x => some (true, ovl σ x, σ.h)
  | .unOp op _ x =>
    match ovl σ x with
    | .one l => match un op l with
      | some (c, r) => some (c, .one r, σ.h)
      | none => none
    | _ => none
  | .binOp op xt x y _ => match binV T σ op xt x y with
    | some (c, v) => some (c, v, σ.h)
    | none => none
  | .convert s d x => match convV T σ s d x with
    | some (c, v) => some (c, v, σ.h)
    | none => none
  | .fieldAddr s x f =>
    match T.get s, ovl σ x with
    | some ti, .one l =>
      match ti.k with
      | .struct fs =>
        match fs[f]? with
        | some (off, ft) =>
          match T.get ft with
          | some tf => if Nat.ble 1 tf.size then
              match ptrField σ.h l off with
              | some (c, r) => some (c, .one r, σ.h)
              | none => none
            else none
          | none => none
        | none => none
      | _ => none
    | _, _ => none
  | .indexAddr t x i =>
    match T.get t, ovl σ x, intOfV (ovl σ i) with
    | some ti, .one l, some (_, n) =>
      match idxAddr T σ.h ti.k (l.view σ.h) n with
      | some (c, r) => some (c, .one r, σ.h)
      | none => none
    | _, _, _ => none
  | .index t x i =>
    match T.get t, intOfV (ovl σ i) with
    | some ti, some (_, n) =>
      match ti.k with
      | .str => match idx (ovl σ x) n with
        | some (c, v) => some (c, v, σ.h)
        | none => none
      | _ => none
    | _, _ => none
  | .slice t x lo hi none =>
    match T.get t, ovl σ x, optInt σ lo, optInt σ hi with
    | some ti, .one l, some l0, some h0 =>
      match slice ti.k (l.view σ.h) l0 h0 σ.h with
      | some (c, r) =>
        match ti.k with
        | .slice e =>
          match T.get e with
          | some te =>
            match l.view σ.h with
            | .val (.slice a) _ => if Nat.beq a.size te.size then some (c, .one r, σ.h) else none
            | .sl id _ _ _ =>
              match σ.h[id]? with
              | some (.arr _ a _ _ _) => if Nat.beq a.size te.size then some (c, .one r, σ.h) else none
              | _ => none
            | _ => none
          | none => none
        | .str => some (c, .one r, σ.h)
        | _ => none
      | none => none
    | _, _, _, _ => none
  | .build t parts => match buildV T σ t parts.toList with
    | some (c, v) => some (c, v, σ.h)
    | none => none
  | .extract x i => match ext (ovl σ x) i with
    | some v => some (true, v, σ.h)
    | none => none
  | .load t x =>
    match ovl σ x with
    | .one l => match loadAt T σ.h t l with
      | some (c, v) => some (c, v, σ.h)
      | none => none
    | _ => none
  | .store t x y =>
    match ovl σ x with
    | .one l => match storeAt T σ.h t l (ovl σ y) with
      | some (c, h) => some (c, .poison, h)
      | none => none
    | _ => none
  | .nilCheck x =>
    match ovl σ x with
    | .one (.ptr id off) => some (true, .one (.ptr id off), σ.h)
    | .one (.aptr id off es i sub) => some (true, .one (.aptr id off es i sub), σ.h)
    | .one (.rptr t y off) => some (true, .one (.rptr t y off), σ.h)
    | .one (.clo f cs) => some (true, .one (.clo f cs), σ.h)
    | .one (.val .opq (.func (.func f) a b)) => some (true, .one (.val .opq (.func (.func f) a b)), σ.h)
    | _ => none
  | .makeFunc (.func f) first cs =>
    if first.size = 0 then
      match caps σ cs.toList with
      | some ls => some (true, .one (.clo f ls), σ.h)
      | none => none
    else none
  | .box e x =>
    match (ovl σ x).leaves with
    | some ls => some (true, .one (.ptr σ.h.length 0), σ.h ++ [.box e ls])
    | none => none
  | .alloc e =>
    match T.get e with
    | some ti => some (true, .one (.ptr σ.h.length 0), σ.h ++ [.box e ti.zls])
    | none => none
  | .buildSlice t n parts =>
    match elemTy T t with
    | some (e, te, _) =>
      if Nat.beq n parts.size && Nat.ble (n * te.size) 16777216 then
        match elems σ te 0 parts.toList with
        | some ys => some (true, .one (.own σ.h.length 0), σ.h ++ [.arr e te 0 ys true])
        | none => none
      else none
    | none => none
  | .makeSlice t l c =>
    match elemTy T t, intOfV (ovl σ l), intOfV (ovl σ c) with
    | some (e, te, ti), some (.i64, n), some (.i64, m) =>
      match implode te ti.zls with
      | some (z, []) => some (decide (0 ≤ n) && (decide (n = m) && Nat.ble (n.toNat * ti.bytes) room), .one (.own σ.h.length 0), σ.h ++ [.arr e te 0 (List.replicate n.toNat z) true])
      | _ => none
    | _, _, _ => none
  | .call { callee := .builtin b, args, argTypes } =>
    match b, args.toList, argTypes.toList with
    | .len, [x], [t] => match lenV T σ t x with
      | some (c, v) => some (c, v, σ.h)
      | none => none
    | .append, [s, x], [t, t'] => if Nat.beq t t' then appendV T σ t s x else appendS T σ t t' s x
    | .min, [x, y], _ =>
      match intOfV (ovl σ x), intOfV (ovl σ y) with
      | some (k, a), some (_, b) => some (true, .one (.val (.int k) (if b < a then b else a)), σ.h)
      | _, _ => none
    | .max, [x, y], _ =>
      match intOfV (ovl σ x), intOfV (ovl σ y) with
      | some (k, a), some (_, b) => some (true, .one (.val (.int k) (if b > a then b else a)), σ.h)
      | _, _ => none
    | _, _, _ => none
  | _ => none

end Go.Dec

namespace Go.Dec
section
variable {β : Nat → Pl} {w : World} {T : Tab} {C : Ctx}

theorem intOfV_rel {N : Nat → Prop} {v : V} {k : IntKind} {n : Int} {x : Value} (h : intOfV v = some (k, n)) (hr : v.Rel β w N x) : x = .int k n := by
  unfold intOfV at h
  split at h
  · simp only [Option.some.injEq, Prod.mk.injEq] at h
    obtain ⟨rfl, rfl⟩ := h
    simp only [V.Rel, L.Rel, Ty.Rel, List.cons.injEq, and_true] at hr
    exact hr
  · cases h

theorem un_run {N : Nat → Prop} {op : UnOp} {l r : L} {x : Value} (h : un op l = some (true, r)) (hr : l.Rel β w N [x]) : ∃ y, (Op.unary op x).run C.P w = .ok y w ∧ r.Rel β w N [y] := by
  unfold un at h
  split at h
  · simp only [Option.some.injEq, Prod.mk.injEq, true_and] at h
    subst h
    simp only [L.Rel, Ty.Rel, List.cons.injEq, and_true] at hr ⊢
    subst hr
    exact ⟨_, rfl, rfl⟩
  · simp only [Option.some.injEq, Prod.mk.injEq, true_and] at h
    subst h
    simp only [L.Rel, Ty.Rel, List.cons.injEq, and_true] at hr ⊢
    subst hr
    exact ⟨_, rfl, rfl⟩
  · cases h

theorem eqGuard_plain {op : BinOp} {t : TypeId} {x y : Operand} {a b : Value} (h1 : a ≠ .nilIface ∨ b ≠ .nilIface) (h2 : (∀ c, a ≠ .agg c) ∨ (∀ c, b ≠ .agg c)) : (eqGuard op t x y a b).run C.P w = .ok () w := by
  unfold eqGuard
  cases op <;> simp only [Bool.not_true, Bool.not_false, Bool.false_eq_true, if_false, if_true, Sem.run_pure] <;> try rfl
  all_goals
    split
    · simp at h1
    · rename_i c d
      rcases h2 with h2 | h2
      · exact absurd rfl (h2 c)
      · exact absurd rfl (h2 d)
    · rfl

theorem bool_lits : (pure true : Sem Bool) = .pure true := rfl

theorem implode_all_rel {N : Nat → Prop} {ty : Ty} {ls : List L} {x : ty.den} {cs : List Value} (h : implode ty ls = some (x, [])) (hr : LsRel β w N ls cs) : ty.Rel w N x cs := by
  obtain ⟨c1, c2, e, h1, h2⟩ := implode_rel h hr
  simp only [LsRel] at h2
  subst h2
  rw [List.append_nil] at e
  subst e
  exact h1

theorem eqV_run {N : Nat → Prop} {xt : TypeId} {a b : List L} {r : Bool} {ca cb : List Value} {op : BinOp} {x y : Operand} (hT : TabOK C.P T) (h : eqV T xt a b = some r) (hop : isEq op = true) (ha : LsRel β w N a ca) (hb : LsRel β w N b cb) :
    (eqGuard op xt x y (.agg ca.toArray) (.agg cb.toArray)).run C.P w = .ok () w ∧ (binOp op xt (.agg ca.toArray) (.agg cb.toArray)).run C.P w = .ok (.bool (sgn op r)) w := by
  unfold eqV at h
  split at h
  · rename_i ti hti
    split at h
    · rename_i ty hty
      split at h
      · rename_i hc
        simp only [Bool.and_eq_true] at hc
        obtain ⟨⟨h1, h2⟩, h3⟩ := hc
        split at h
        · rename_i p q hp hq
          simp only [Option.some.injEq] at h
          subst h
          have hok := hT _ _ hti
          obtain ⟨hg, he⟩ := hok.eqs h1
          have hrp := implode_all_rel hp ha
          have hrq := implode_all_rel hq hb
          have hrun := equal_run (P := C.P) (w := w) (N := N) 12 xt ty p q ca cb 10000 (by omega) (hok.ty.trans hty) he h2 hrp hrq
          simp only [valOf, h3, if_true] at hrun
          refine ⟨run_eqGuard_agg w op xt x y _ _ hg, ?_⟩
          cases op <;> simp only [isEq, Bool.false_eq_true] at hop
          · rw [run_eql_struct, hrun]; rfl
          · rw [run_neq_struct, hrun]; rfl
        · cases h
      · cases h
    · cases h
  · cases h

theorem eqIn_run {xt : TypeId} {u v : Value} {r : Bool} (d : Nat) (h : (xt ∈ ([] : List Nat)) ∨ (∃ e, C.P.underlying xt = some (.pointer e) ∧ ((u = .pointer none ∧ v = .pointer none ∧ r = true) ∨ (∃ a, u = .pointer (some a) ∧ v = .pointer none ∧ r = false))) ∨
      (∃ ms, C.P.underlying xt = some (.interface ms) ∧ ((u = .nilIface ∧ v = .nilIface ∧ r = true) ∨ (∃ t x, u = .iface t x ∧ v = .nilIface ∧ r = false))) ∨
      (∃ ps rs b, C.P.underlying xt = some (.func ps rs b) ∧ ∃ f x y, u = .func f x y ∧ v = .nilFunc ∧ r = false) ∨
      (∃ e, C.P.underlying xt = some (.slice e) ∧ u = .slice none 0 0 ∧ v = .slice none 0 0 ∧ r = true)) : (Op.equalIn (d + 1) xt u v).run C.P w = .ok r w := by
  rcases h with h | ⟨e, hu, ⟨rfl, rfl, rfl⟩ | ⟨a, rfl, rfl, rfl⟩⟩ | ⟨ms, hu, ⟨rfl, rfl, rfl⟩ | ⟨t, x, rfl, rfl, rfl⟩⟩ | ⟨ps, rs, b, hu, f, x, y, rfl, rfl, rfl⟩ | ⟨e, hu, rfl, rfl, rfl⟩
  · cases h
  all_goals simp only [Op.equalIn, Sem.run_bind, run_underlying hu, Result.andThen_ok, Sem.run_pure, Option.isNone_none]

theorem eqop_run {xt : TypeId} {u v : Value} {r : Bool} {op : BinOp} {x y : Operand} (hop : isEq op = true) (hg : (eqGuard op xt x y u v).run C.P w = .ok () w) (hs : (∃ a b, u = .pointer a ∧ v = .pointer b) ∨ (v = .nilIface) ∨ (v = .nilFunc) ∨ (∃ a b c d e f, u = .slice a b c ∧ v = .slice d e f))
    (h : ∀ d, (Op.equalIn (d + 1) xt u v).run C.P w = .ok r w) : ((do eqGuard op xt x y u v; binOp op xt u v : Sem Value)).run C.P w = .ok (.bool (sgn op r)) w := by
  rw [Sem.run_bind, hg, Result.andThen_ok]
  have h' : (Op.equal xt u v).run C.P w = .ok r w := h 9999
  cases op <;> simp only [isEq, Bool.false_eq_true] at hop
  all_goals
    rcases hs with ⟨a, b, rfl, rfl⟩ | rfl | rfl | ⟨a, b, c, d, e, f, rfl, rfl⟩
    · simp only [binOp, Sem.run_bind, h', Result.andThen_ok, Sem.run_pure, sgn]
    · cases u <;> simp only [binOp, Sem.run_bind, h', Result.andThen_ok, Sem.run_pure, sgn]
    · cases u <;> simp only [binOp, Sem.run_bind, h', Result.andThen_ok, Sem.run_pure, sgn]
    · simp only [binOp, Sem.run_bind, h', Result.andThen_ok, Sem.run_pure, sgn]

theorem eqNil_run {N : Nat → Prop} {xt : TypeId} {ti : TI} {l : L} {x y : Operand} {ρ : Operand → Value} {op : BinOp} {b : Bool} (hT : TabOK C.P T) (hti : T.get xt = some ti) (h : eqNilT ti.k l y = some b) (hop : isEq op = true) (hr : l.Rel β w N [ρ x]) (hc : ∀ v, ρ (.const v) = v) :
    ((do eqGuard op xt x y (ρ x) (ρ y); binOp op xt (ρ x) (ρ y) : Sem Value)).run C.P w = .ok (.bool (sgn op b)) w := by
  have hok := hT _ _ hti
  unfold eqNilT at h
  split at h <;> simp only [Option.some.injEq, reduceCtorEq] at h <;> subst h
  · rename_i e _ hk
    simp only [L.Rel, List.cons.injEq, and_true] at hr
    rw [hr, hc]
    exact eqop_run hop (eqGuard_plain (.inl (by simp)) (.inl (by simp))) (.inl ⟨_, _, rfl, rfl⟩) fun d => eqIn_run d (.inr (.inl ⟨_, hok.ptr hk, .inl ⟨rfl, rfl, rfl⟩⟩))
  · rename_i e id off hk
    simp only [L.Rel, List.cons.injEq, and_true] at hr
    obtain ⟨_, _, b, _, hr⟩ := hr
    rw [hr, hc]
    exact eqop_run hop (eqGuard_plain (.inl (by simp)) (.inl (by simp))) (.inl ⟨_, _, rfl, rfl⟩) fun d => eqIn_run d (.inr (.inl ⟨_, hok.ptr hk, .inr ⟨_, rfl, rfl, rfl⟩⟩))
  · rename_i e id off es i sub hk
    simp only [L.Rel, List.cons.injEq, and_true] at hr
    obtain ⟨_, _, b, _, hr⟩ := hr
    rw [hr, hc]
    exact eqop_run hop (eqGuard_plain (.inl (by simp)) (.inl (by simp))) (.inl ⟨_, _, rfl, rfl⟩) fun d => eqIn_run d (.inr (.inl ⟨_, hok.ptr hk, .inr ⟨_, rfl, rfl, rfl⟩⟩))
  · rename_i e t x off hk
    simp only [L.Rel, List.cons.injEq, and_true] at hr
    obtain ⟨c, hr, b, o, cs, rfl, _⟩ := hr
    rw [hr, hc]
    exact eqop_run hop (eqGuard_plain (.inl (by simp)) (.inl (by simp))) (.inl ⟨_, _, rfl, rfl⟩) fun d => eqIn_run d (.inr (.inl ⟨_, hok.ptr hk, .inr ⟨_, rfl, rfl, rfl⟩⟩))
  · rename_i e bb hk
    simp only [L.Rel, Ty.Rel, List.cons.injEq, and_true] at hr
    obtain ⟨v, hr, hv⟩ := hr
    obtain ⟨ms, hu⟩ := hok.iface hk
    rcases hv with ⟨rfl, t, x, rfl⟩ | ⟨rfl, rfl⟩
    · rw [hr, hc]
      exact eqop_run hop (eqGuard_plain (.inl (by simp)) (.inl (by simp))) (.inr (.inl rfl)) fun d => eqIn_run d (.inr (.inr (.inl ⟨_, hu, .inr ⟨_, _, rfl, rfl, rfl⟩⟩)))
    · rw [hr, hc]
      exact eqop_run hop (by cases op <;> simp [isEq] at hop <;> simp [eqGuard]) (.inr (.inl rfl)) fun d => eqIn_run d (.inr (.inr (.inl ⟨_, hu, .inl ⟨rfl, rfl, rfl⟩⟩)))
  · rename_i f cs hk
    simp only [L.Rel, List.cons.injEq, and_true] at hr
    obtain ⟨us, hr, _⟩ := hr
    obtain ⟨d, hd, hk'⟩ := hok.und
    rw [hk] at hk'
    cases d <;> simp only [TK.of, reduceCtorEq] at hk'
    rw [hr, hc]
    exact eqop_run hop (eqGuard_plain (.inl (by simp)) (.inl (by simp))) (.inr (.inr (.inl rfl))) fun d => eqIn_run d (.inr (.inr (.inr (.inl ⟨_, _, _, hd, _, _, _, rfl, rfl, rfl⟩))))
  · rename_i e hk
    simp only [L.Rel, List.cons.injEq, and_true] at hr
    rw [hr, hc]
    exact eqop_run hop (eqGuard_plain (.inl (by simp)) (.inl (by simp))) (.inr (.inr (.inr ⟨_, _, _, _, _, _, rfl, rfl⟩))) fun d => eqIn_run d (.inr (.inr (.inr (.inr ⟨_, hok.slice hk, rfl, rfl, rfl⟩))))

theorem bin_run {N : Nat → Prop} {op : BinOp} {xt : TypeId} {x y : Operand} {a b r : L} {u v : Value} (hnb : ∀ p q, ¬ (a = .val .bool p ∧ b = .val .bool q)) (h : bin op a b = some (true, r)) (ha : a.Rel β w N [u]) (hb : b.Rel β w N [v]) :
    ∃ z, ((do eqGuard op xt x y u v; binOp op xt u v : Sem Value)).run C.P w = .ok z w ∧ r.Rel β w N [z] := by
  unfold bin at h
  split at h
  · simp only [L.Rel, Ty.Rel, List.cons.injEq, and_true] at ha hb
    subst ha hb
    rw [Sem.run_bind, eqGuard_plain (.inl (by simp)) (.inl (by simp)), Result.andThen_ok]
    split at h
    · exact run_bShift xt h
    · rename_i hs
      split at h
      · rename_i hk
        subst hk
        exact run_bInt xt (by simpa using hs) h
      · cases h
  · simp only [L.Rel, Ty.Rel, List.cons.injEq, and_true] at ha hb
    subst ha hb
    rw [Sem.run_bind, eqGuard_plain (.inl (by simp)) (.inl (by simp)), Result.andThen_ok]
    exact run_bStr xt h
  · rename_i p q
    exact absurd ⟨rfl, rfl⟩ (hnb p q)
  · cases h

theorem binV_run {σ : St} {a : Act} {op : BinOp} {xt : TypeId} {x y : Operand} {v : V} (hT : TabOK C.P T) (hs : Sim C β σ a w) (h : binV T σ op xt x y = some (true, v)) :
    ∃ z, ((do eqGuard op xt x y (a.eval x) (a.eval y); binOp op xt (a.eval x) (a.eval y) : Sem Value)).run C.P w = .ok z w ∧ v.Rel β w (C.N β σ.h) z := by
  have hx := ovl_rel hs x
  have hy := ovl_rel hs y
  unfold binV at h
  split at h
  · rename_i hc
    simp only [Bool.and_eq_true] at hc
    split at h
    · rename_i l ti hl hti
      split at h
      · rename_i b hb
        simp only [Option.some.injEq, Prod.mk.injEq, true_and] at h
        subst h
        rw [hl] at hx
        exact ⟨_, eqNil_run (N := C.N β σ.h) (ρ := a.eval) hT hti hb hc.1 hx (fun _ => rfl), by simp only [V.Rel, L.Rel, Ty.Rel]⟩
      · cases h
    · cases h
  · split at h
    · rename_i p q hp hq
      rw [hp] at hx
      rw [hq] at hy
      split at h
      · rename_i p q _
        split at h
        · rename_i ti hti
          split at h
          · rename_i hk
            split at h
            · rename_i c r hb
              simp only [Option.some.injEq, Prod.mk.injEq] at h
              obtain ⟨rfl, rfl⟩ := h
              simp only [V.Rel, L.Rel, Ty.Rel, List.cons.injEq, and_true] at hx hy
              rw [hx, hy, Sem.run_bind, eqGuard_plain (.inl (by simp)) (.inl (by simp)), Result.andThen_ok]
              exact run_bBool xt ((hT _ _ hti).bool hk) hb
            · cases h
          · cases h
        · cases h
      · rename_i a1 b1 hnb
        split at h
        · rename_i c r hb
          simp only [Option.some.injEq, Prod.mk.injEq] at h
          obtain ⟨rfl, rfl⟩ := h
          exact bin_run (N := C.N β σ.h) (fun p q hpq => hnb p q hpq.1 hpq.2) hb hx hy
        · cases h
    · rename_i p q hp hq
      rw [hp] at hx
      rw [hq] at hy
      split at h
      · rename_i hop
        split at h
        · rename_i r hr
          simp only [Option.some.injEq, Prod.mk.injEq, true_and] at h
          subst h
          obtain ⟨ca, hca, hra⟩ := hx
          obtain ⟨cb, hcb, hrb⟩ := hy
          rw [hca, hcb]
          obtain ⟨h1, h2⟩ := eqV_run (x := x) (y := y) hT hr hop hra hrb
          exact ⟨_, by rw [Sem.run_bind, h1, Result.andThen_ok, h2], by simp only [V.Rel, L.Rel, Ty.Rel]⟩
        · cases h
      · cases h
    · cases h

theorem convV_run {σ : St} {a : Act} {s d : TypeId} {x : Operand} {v : V} (hT : TabOK C.P T) (hs : Sim C β σ a w) (h : convV T σ s d x = some (true, v)) :
    ∃ z, (convert s d (a.eval x)).run C.P w = .ok z w ∧ v.Rel β w (C.N β σ.h) z := by
  have hx := ovl_rel hs x
  unfold convV at h
  split at h
  · rename_i ts td l hts htd hl
    rw [hl] at hx
    split at h
    · rename_i k ks kn n hkd hks
      simp only [Option.some.injEq, Prod.mk.injEq, true_and] at h
      subst h
      simp only [V.Rel, L.Rel, Ty.Rel, List.cons.injEq, and_true] at hx
      rw [hx]
      refine ⟨.int k (k.wrap n), ?_, by simp only [V.Rel, L.Rel, Ty.Rel]⟩
      simp only [convert, Sem.run_bind, run_underlying ((hT _ _ hts).int hks), run_underlying ((hT _ _ htd).int hkd), Result.andThen_ok, Conv.intToInt, Sem.run_pure]
    · rename_i s0 hkd hks
      simp only [Option.some.injEq, Prod.mk.injEq, true_and] at h
      subst h
      simp only [V.Rel, L.Rel, Ty.Rel, List.cons.injEq, and_true] at hx
      rw [hx]
      refine ⟨.string ⟨s0.toArray⟩, ?_, by simp only [V.Rel, L.Rel, Ty.Rel]⟩
      simp only [convert, Sem.run_bind, run_underlying ((hT _ _ hts).str hks), run_underlying ((hT _ _ htd).str hkd), Result.andThen_ok, Sem.run_pure]
    · cases h
  · cases h

/-- Cells of a row, some of them put in. -/
theorem fill_step (places : Nat → Option (Nat × Nat)) (cs : Array Value) (i off size : Nat) (v : Value) (rest : List (Nat × Value)) (hp : places i = some (off, size)) (hsz : v.cells.size = size) (hfit : off + size ≤ cs.size) :
    Instr.fill places cs ((i, v) :: rest) = Instr.fill places (cs.toList.take off ++ v.cells.toList ++ cs.toList.drop (off + size)).toArray rest := by
  simp only [Instr.fill, hp]
  rw [if_neg (by simp only [Bool.or_eq_true, decide_eq_true_eq, not_or]; constructor <;> omega)]
  congr 1
  have key : ∀ (vs : List Value) (k : Nat) (cs : Array Value), off + k + vs.length ≤ cs.size →
      (vs.zipIdx k).foldl (fun (cs : Array Value) (p : Value × Nat) => cs.setIfInBounds (off + p.2) p.1) cs = (cs.toList.take (off + k) ++ vs ++ cs.toList.drop (off + k + vs.length)).toArray := by
    intro vs
    induction vs with
    | nil => intro k cs _; simp
    | cons v vs ih =>
      intro k cs hk
      simp only [List.zipIdx_cons, List.foldl_cons]
      rw [ih (k + 1) _ (by simp at hk ⊢; omega)]
      have e := list_seg_step cs.toList (off + k) v vs (by simp at hk ⊢; omega)
      congr 1
      simpa [Array.toList_setIfInBounds, Nat.add_assoc] using e
  rw [← Array.foldl_toList]
  have := key v.cells.toList 0 cs (by simp; omega)
  simp only [Nat.add_zero, Array.length_toList, hsz] at this
  rw [← this]
  simp [Array.toList_zipIdx]

theorem build_fill {N : Nat → Prop} {fs : List (Nat × TypeId)} {places : Nat → Option (Nat × Nat)} (hT : TabOK C.P T) (hpl : ∀ i off ft ti, fs[i]? = some (off, ft) → T.get ft = some ti → places i = some (off, ti.size)) :
    ∀ (parts : List (Nat × V)) (vs : List (Nat × Value)) (ls ls' : List L) (cs : Array Value), build T fs ls parts = some ls' → LsRel β w N ls cs.toList → All2 (fun (p : Nat × V) (q : Nat × Value) => p.1 = q.1 ∧ p.2.Rel β w N q.2) parts vs →
      ∃ cs' : Array Value, Instr.fill places cs vs = some cs' ∧ LsRel β w N ls' cs'.toList
  | [], [], ls, ls', cs, h, hr, _ => by
    simp only [build, Option.some.injEq] at h
    subst h
    exact ⟨cs, rfl, hr⟩
  | (i, v) :: parts, (j, x) :: vs, ls, ls', cs, h, hr, ha => by
    obtain ⟨⟨e, hv⟩, ha⟩ := ha
    simp only at e
    subst e
    simp only [build] at h
    split at h
    · rename_i off ft new hf hn
      split at h
      · rename_i ti hti
        split at h
        · rename_i hsz
          split at h
          · rename_i ls1 hset
            have hrx := V.leaves_rel hn hv
            obtain ⟨hr1, hle⟩ := setLs_rel hset hr hrx
            have hxs : x.cells.size = ti.size := by rw [← hsz, ← hrx.length]; simp
            have hxl : x.cells.toList.length = ti.size := by simpa using hxs
            rw [hxl] at hr1 hle
            have hfit : off + ti.size ≤ cs.size := by simpa using hle
            rw [fill_step places cs i off ti.size x vs (hpl i off ft ti hf hti) hxs hfit]
            exact build_fill hT hpl parts vs ls1 ls' _ h (by simpa [List.append_assoc] using hr1) ha
          · cases h
        · cases h
      · cases h
    · cases h
  | [], _ :: _, _, _, _, _, _, ha => ha.elim
  | _ :: _, [], _, _, _, _, _, ha => ha.elim

theorem vals_rel {σ : St} {a : Act} (hs : Sim C β σ a w) : ∀ parts : List (Nat × Operand), All2 (fun (p : Nat × V) (q : Nat × Value) => p.1 = q.1 ∧ p.2.Rel β w (C.N β σ.h) q.2) (vals σ parts) (parts.map fun p => (p.1, a.eval p.2))
  | [] => trivial
  | (_i, x) :: r => ⟨⟨rfl, ovl_rel hs x⟩, vals_rel hs r⟩

theorem buildV_run {σ : St} {a : Act} {t : TypeId} {parts : Array (Nat × Operand)} {v : V} (hT : TabOK C.P T) (hs : Sim C β σ a w) (h : buildV T σ t parts.toList = some (true, v)) :
    ∃ z, (Instr.build t (parts.map fun p => (p.1, a.eval p.2))).run C.P w = .ok z w ∧ v.Rel β w (C.N β σ.h) z := by
  unfold buildV at h
  split at h
  · rename_i ti hti
    split at h
    · rename_i fs hk
      split at h
      case isFalse => cases h
      rename_i hpl
      split at h
      · rename_i ls hb
        simp only [Option.some.injEq, Prod.mk.injEq, true_and] at h
        subst h
        have hok := hT _ _ hti
        obtain ⟨ff, hu, rfl⟩ := hok.struct hk
        obtain ⟨_, z, hi, his, hib, hz, hzok, hzs, hagz⟩ := hok.i
        -- the fields' places
        have hmap : ∀ (l : List Field) (_ : ∀ f ∈ l, (T.get f.type).isSome = true) (acc : Array (Nat × Nat)), (l.foldlM (fun (acc : Array (Nat × Nat)) f => do
            let s ← sizeOf f.type
            pure (acc.push (f.offset, s))) acc : Sem (Array (Nat × Nat))).run C.P w = .ok (acc ++ (l.map fun f => (f.offset, ((T.get f.type).map (·.size)).getD 0)).toArray) w := by
          intro l
          induction l with
          | nil => intro _ acc; simp
          | cons f l ih =>
            intro hl acc
            obtain ⟨tf, htf⟩ := Option.isSome_iff_exists.1 (hl f (.head _))
            simp only [List.foldlM_cons, Sem.run_bind, (hT _ _ htf).sizeOf, Result.andThen_ok, Sem.run_pure]
            rw [ih (fun g hg => hl g (.tail _ hg))]
            simp [htf]
        have hall : ∀ f ∈ ff.toList, (T.get f.type).isSome = true := fun f hf => List.all_eq_true.1 hpl (f.offset, f.type) (List.mem_map.2 ⟨f, hf, rfl⟩)
        have hplaces : (ff.mapM (fun f => do pure (f.offset, ← sizeOf f.type)) : Sem (Array (Nat × Nat))).run C.P w = .ok ((ff.toList.map fun f => (f.offset, ((T.get f.type).map (·.size)).getD 0)).toArray) w := by
          rw [Array.mapM_eq_foldlM, ← Array.foldlM_toList]
          have := hmap ff.toList hall #[]
          simp only [bind_pure_comp] at this ⊢
          simpa using this
        have hpl2 : ∀ (i off : Nat) (ft : TypeId) (tf : TI), (ff.toList.map fun f => (f.offset, f.type))[i]? = some (off, ft) → T.get ft = some tf → (((ff.toList.map fun f => (f.offset, ((T.get f.type).map (·.size)).getD 0)).toArray)[i]? : Option (Nat × Nat)) = some (off, tf.size) := by
          intro i off ft tf h1 h2
          simp only [List.getElem?_map, Option.map_eq_some_iff, Prod.mk.injEq, List.getElem?_toArray] at h1 ⊢
          obtain ⟨f, hf, rfl, rfl⟩ := h1
          exact ⟨f, hf, rfl, by simp [h2]⟩
        obtain ⟨cs', hfill, hr⟩ := build_fill (β := β) (w := w) (N := C.N β σ.h) (places := fun i => (((ff.toList.map fun f => (f.offset, ((T.get f.type).map (·.size)).getD 0)).toArray)[i]? : Option (Nat × Nat))) hT hpl2 (vals σ parts.toList) (parts.toList.map fun p => (p.1, a.eval p.2)) ti.zls ls z.cells hb (hzok _ _ _) (vals_rel hs _)
        refine ⟨.agg cs', ?_, ⟨cs'.toList, rfl, hr⟩⟩
        have hzv : (zeroValue t).run C.P w = .ok z w := by simp [zeroValue, typeInfo, hi, hz]
        simp only [Instr.build, Sem.run_bind, hzv, Result.andThen_ok, run_underlying hu, hplaces, Array.toList_map]
        rw [hfill]
        rfl
      · cases h
    · cases h
  · cases h

theorem ext_run {N : Nat → Prop} {v r : V} {i : Nat} {x : Value} (h : ext v i = some r) (hr : v.Rel β w N x) : ∃ z, (Instr.extract x i).run C.P w = .ok z w ∧ r.Rel β w N z := by
  unfold ext at h
  split at h
  · rename_i vs
    obtain ⟨us, rfl, hall⟩ := hr
    have hi : i < vs.length := by
      rcases Nat.lt_or_ge i vs.length with h1 | h1
      · exact h1
      · rw [List.getElem?_eq_none h1] at h; cases h
    have hi1 : i < us.length := by rw [← hall.length]; exact hi
    have hrel := hall.get i hi hi1
    rw [List.getElem?_eq_getElem hi] at h
    refine ⟨us[i], by simp [Instr.extract, hi1], ?_⟩
    split at h
    · rename_i l hl
      simp only [Option.some.injEq] at h hl
      subst h
      rw [hl] at hrel
      exact hrel
    · rename_i ls hl
      simp only [Option.some.injEq] at h hl
      subst h
      rw [hl] at hrel
      exact hrel
    · cases h
  · cases h

end
end Go.Dec

namespace Go.Dec
section
variable {β : Nat → Pl} {w : World} {T : Tab} {C : Ctx}

theorem all2_bytes (w : World) (N : Nat → Prop) (l : List Int) : All2 (fun (x : Int) (c : List Value) => (Ty.int .u8).Rel w N x c) l (l.map fun n => [Value.int .u8 n]) := by
  induction l with
  | nil => trivial
  | cons x l ih => exact ⟨rfl, ih⟩

theorem strCells_bytes (s : List UInt8) : Lib.strCells ⟨s.toArray⟩ = ((sToBytes s).map fun n => [Value.int .u8 n]).flatten := by
  simp only [Lib.strCells, sToBytes]
  induction s with
  | nil => rfl
  | cons b s ih => simp at ih ⊢; exact ih

/-- 'append(xs, s...)' at an own row of bytes, 's' a text. -/
theorem appendStr_run {σ : St} {a : Act} {st sx e : TypeId} {ts tx ti : TI} {rows : List Int} {s : List UInt8} {x : Value} {id ver : Nat} (ty : TypeId) (hT : TabOK C.P T) (hst : T.get st = some ts) (hk : ts.k = .slice e) (hsx : T.get sx = some tx) (hkx : tx.k = .str) (hti : T.get e = some ti) (hsz : ti.size = 1)
    (hby : 0 < ti.bytes) (hroom : (rows.length + s.length) * ti.bytes ≤ room) (hs : Sim C β σ a w) (ho : σ.h[id]? = some (.arr e (.int .u8) ver rows true)) (hx : SlOwn (β id) 0 rows.length x) :
    ∃ v' w' β', (Builtin.append_ #[st, sx] ty #[x, .string ⟨s.toArray⟩]).run C.P w = .ok v' w' ∧ Moves β β' ∧ Sim C β' { σ with h := σ.h.set id (.arr e (.int .u8) (ver + 1) (rows ++ sToBytes s) true) } a w' ∧
      (L.own id (ver + 1)).Rel β' w' (C.N β' (σ.h.set id (.arr e (.int .u8) (ver + 1) (rows ++ sToBytes s) true))) [v'] ∧ Keep (C.N β σ.h) w w' := by
  have hu := (hT _ _ hst).slice hk
  obtain ⟨i, z, hi, his, hib, hz, hzok, hzs, _⟩ := (hT _ _ hti).i
  have hlen : rows.length + s.length ≤ (rows.length + s.length) * ti.bytes := Nat.le_mul_of_pos_right _ hby
  have hus := (hT _ _ hsx).str hkx
  have hss : (⟨s.toArray⟩ : ByteArray).size = s.length := by simp [ByteArray.size]
  unfold room at hroom
  have hob := hs.heap.obj _ _ ho
  simp only [Ob.Rel] at hob
  obtain ⟨hlive, hbox, hpv, hpz, hpos, hpl, hob⟩ := hob
  have hrl : (rows ++ sToBytes s).length = rows.length + s.length := by simp [sToBytes]
  -- the place behind the step
  have fin : ∀ (w' : World) (bk cap : Nat) (cur : Array Value) (css : List (List Value)), (bk = w.heap.size ∧ w.heap.size < w'.heap.size ∨ (β id).blk = some bk) → Keep (fun k => (β id).blk = some k ∧ True) w w' → Same w w' →
      w'.heap[bk]? = some (.cells cur e (0, 0)) → All2 (fun x c => (Ty.int .u8).Rel w (C.N β σ.h) x c) (rows ++ sToBytes s) css → cur.toList.take ((rows.length + s.length) * 1) = css.flatten → cur.size = cap * 1 → rows.length + s.length ≤ cap → cap ≤ maxLen →
      ∃ β', Moves β β' ∧ Sim C β' { σ with h := σ.h.set id (.arr e (.int .u8) (ver + 1) (rows ++ sToBytes s) true) } a w' ∧
        (L.own id (ver + 1)).Rel β' w' (C.N β' (σ.h.set id (.arr e (.int .u8) (ver + 1) (rows ++ sToBytes s) true))) [.slice (some ⟨bk, 0, none⟩) (rows.length + s.length) cap] := by
    intro w' bk cap cur css hbk hkeep hsame hheap hall htake hcsz hle hm
    let p : Pl := ⟨true, false, ver + 1, some bk, 1, cap, rows.length + s.length⟩
    have hmv : Moves β (upd β id p) := fun j hj => by
      by_cases hji : j = id
      · subst hji
        rw [upd_same]
        exact .inr ⟨hbox, rfl, rfl, by rw [hpv]; exact Nat.lt_succ_self _⟩
      · exact .inl (upd_other _ _ hji)
    have hpb : p.blk = (β id).blk ∨ p.blk = none ∨ (p.blk = some w.heap.size ∧ w.heap.size < w'.heap.size) := by
      rcases hbk with ⟨e1, h2⟩ | e1
      · right; right; exact ⟨by simp only [p, e1], h2⟩
      · left; simp only [p, e1]
    have hkk : Keep (fun k => (β id).blk = some k ∧ Ob.wr (.arr e (.int .u8) ver rows true) = true) w w' := hkeep.weaken fun k hk => ⟨hk.1, rfl⟩
    refine ⟨upd β id p, hmv, hs.set (p := p) ho (fun _ => rfl) hpb hkk hsame hmv ?_, ?_⟩
    · simp only [Ob.Rel]
      refine ⟨rfl, rfl, rfl, rfl, hpos, hrl.symm, .inr ⟨bk, cur, css, rfl, hheap, ?_, by rw [hrl]; exact htake, hcsz, by rw [hrl]; exact hle, hm⟩⟩
      exact hall.mono fun _ _ h => h.mono (hkk.weaken fun k hk => .inr ⟨id, _, ho, rfl, hk.1⟩) fun k hlt hn => owns_set (w := w) ho (fun _ => rfl) (hpb.imp (fun h => h) (·.imp (fun h => h) (·.1))) hlt hn
    · simp only [L.Rel, upd_same]
      refine ⟨rfl, rfl, Nat.le_refl _, _, rfl, rfl, fun _ => ?_⟩
      unfold SlOwn
      simp only [p]
      exact ⟨by omega, 0, rfl, .inl (by simp)⟩
  have toK : ∀ {w' : World}, Keep (fun k => (β id).blk = some k ∧ True) w w' → Keep (C.N β σ.h) w w' := fun h => h.weaken fun k hk => .inr ⟨id, _, ho, rfl, hk.1⟩
  have hcells := strCells_bytes s
  have hmul : s.length * ti.bytes ≤ (rows.length + s.length) * ti.bytes := Nat.mul_le_mul_right _ (by omega)
  have hsm : s.length ≤ 140737488355328 := by omega
  have hsb : s.length * ti.bytes ≤ 140737488355328 := by omega
  have hally : All2 (fun x c => (Ty.int .u8).Rel w (C.N β σ.h) x c) (sToBytes s) ((sToBytes s).map fun n => [Value.int .u8 n]) := all2_bytes _ _ _
  have hsl : (sToBytes s).length = s.length := by simp [sToBytes]
  have hfy : (Lib.strCells ⟨s.toArray⟩).length = s.length := by rw [Lib.strCells_length, hss]
  rcases hob with ⟨hnb, hr0, hcap0⟩ | ⟨b, cur, css, hb, hheap, hall, htake, hcap, hrc, hcm⟩
  · -- nil till now
    subst hr0
    unfold SlOwn at hx
    rw [hnb] at hx
    obtain ⟨rfl, _, _⟩ := hx
    by_cases h0 : s.length = 0
    · have hys : s = [] := List.eq_nil_of_length_eq_zero h0
      subst hys
      have hrun : (Builtin.append_ #[st, sx] ty #[.slice none 0 0, .string ⟨#[]⟩]).run C.P w = .ok (.slice none 0 0) w := by
        have h1 : ByteArray.size ⟨#[]⟩ = 0 := rfl
        simp [Builtin.append_, run_underlying hu, run_underlying hus, Go.sizeOf, typeInfo, hi, Builtin.lenOf, Builtin.firstCells, h1]
      let p : Pl := ⟨true, false, ver + 1, none, 1, 0, 0⟩
      have hmv : Moves β (upd β id p) := fun j hj => by
        by_cases hji : j = id
        · subst hji
          rw [upd_same]
          exact .inr ⟨hbox, rfl, rfl, by rw [hpv]; exact Nat.lt_succ_self _⟩
        · exact .inl (upd_other _ _ hji)
      refine ⟨_, w, upd β id p, hrun, hmv, hs.set (p := p) ho (fun _ => rfl) (.inr (.inl rfl)) (Keep.refl _ w) ⟨rfl, rfl, rfl⟩ hmv ?_, ?_, Keep.refl _ w⟩
      · simp only [Ob.Rel]
        exact ⟨rfl, rfl, rfl, rfl, hpos, by simp [p, sToBytes], .inl ⟨rfl, by simp [sToBytes], rfl⟩⟩
      · simp only [L.Rel, upd_same]
        refine ⟨rfl, rfl, Nat.le_refl _, _, rfl, rfl, fun _ => ?_⟩
        unfold SlOwn
        simp only [p]
        exact ⟨trivial, trivial, trivial⟩
    · have hrun := run_append_nil_string (P := C.P) w st sx ty e i z hu hus hi hz ⟨s.toArray⟩ (by omega) (by omega) (by rw [hib, hss]; omega)
      have e1 : (s.toArray.map fun b : UInt8 => Value.int .u8 b.toNat) = (Lib.strCells ⟨s.toArray⟩).toArray := by
        apply Array.ext'
        simp [Lib.strCells]
      rw [hss] at hrun
      simp only [e1] at hrun
      have hge := grownCap_ge w s.length 0 e
      have hcm := grownCap_le_maxLen w s.length 0 e (by simp only [maxLen]; omega)
      have hk0 : Keep (fun _ => False) w (w.drew.alloc (.cells ((Lib.strCells ⟨s.toArray⟩).toArray ++ Builtin.zeroCells z.cells (grownCap w s.length 0 e - s.length)) e)) := (keep_drew w).trans (keep_alloc w.drew _)
      have hk1 := hk0.weaken (N' := fun k => (β id).blk = some k ∧ True) fun _ h => h.elim
      obtain ⟨β', h1, h2, h3⟩ := fin _ w.heap.size (grownCap w s.length 0 e) _ _ (.inl ⟨rfl, by simp⟩) hk1 ⟨rfl, rfl, rfl⟩ (heap_alloc_new w.drew _) (by simpa using hally)
        (by rw [← hcells]; simp only [Array.toList_append, List.length_nil, Nat.zero_add, Nat.mul_one]; rw [List.take_left' hfy])
        (by simp only [Array.size_append, List.size_toArray, size_zeroCells, hzs, hfy, his, hsz, Nat.mul_one]; omega) (by simpa using hge) hcm
      simp only [List.length_nil, Nat.zero_add] at h3
      exact ⟨_, _, β', hrun, h1, h2, h3, toK hk1⟩
  · unfold SlOwn at hx
    rw [hb] at hx
    obtain ⟨h1, o, rfl, h3⟩ := hx
    have ho0 : o = 0 := by
      rcases h3 with h3 | h3
      · simpa using h3
      · omega
    subst ho0
    rw [Nat.sub_zero]
    have hl := rel_lens hall
    have hcl : css.flatten.length = rows.length := by rw [flatten_length css hl, ← hall.length]; simp [Ty.size]
    have htk : cur.toList.take rows.length = css.flatten := by simpa [Ty.size] using htake
    have hcs : cur.size = (β id).cap := by simpa [Ty.size] using hcap
    by_cases hr : rows.length + s.length ≤ (β id).cap
    · -- room
      have hrun := Lib.run_append_room_string (P := C.P) w st sx ty e i hu hus hi (by rw [his, hsz]) b rows.length (β id).cap cur hheap ⟨s.toArray⟩ (by rw [hss]; exact hr) (by rw [hss]; omega)
      rw [hss] at hrun
      have hk1 : Keep (fun k => (β id).blk = some k ∧ True) w (w.setRow b (cur.toList.take rows.length ++ Lib.strCells ⟨s.toArray⟩ ++ cur.toList.drop (rows.length + s.length)).toArray) := keep_setRow.weaken fun k hk => by subst hk; exact ⟨hb, trivial⟩
      obtain ⟨β', g1, g2, g3⟩ := fin _ b (β id).cap _ _ (.inr hb) hk1 same_setRow (setRow_heap w b _ _ e _ hheap) (hall.append hally)
        (by
          rw [htk, List.flatten_append, ← hcells]
          exact List.take_left' (by rw [List.length_append, hcl, hfy, Nat.mul_one]))
        (by
          simp only [List.size_toArray, List.length_append, List.length_take, List.length_drop, Array.length_toList, hfy]
          omega) hr hcm
      exact ⟨_, _, β', hrun, g1, g2, g3, toK hk1⟩
    · -- it grows
      have holds : ∀ j u, css.flatten[j]? = some u → w.cell? ((⟨b, 0, none⟩ : Addr).add j) = some u := cells_addr (by rw [← htk]; exact (Cells.of_heap hheap).take _)
      have hrun := Lib.run_append_grow_string (P := C.P) w st sx ty e i z hu hus hi hz ⟨b, 0, none⟩ rows.length (β id).cap css.flatten (by rw [hcl, his, hsz, Nat.mul_one]) holds ⟨s.toArray⟩ (by omega) (by omega)
        (growslice_fits (by omega) (by rw [hib, hss]; exact hroom))
      rw [hss] at hrun
      have hge := grownCap_ge w (rows.length + s.length) (β id).cap e
      have hcm' := grownCap_le_maxLen w (rows.length + s.length) (β id).cap e (by simp only [maxLen]; omega)
      have hk0 : Keep (fun _ => False) w (w.drew.alloc (.cells (css.flatten.toArray ++ (Lib.strCells ⟨s.toArray⟩).toArray ++ Builtin.zeroCells z.cells (grownCap w (rows.length + s.length) (β id).cap e - (rows.length + s.length))) e)) := (keep_drew w).trans (keep_alloc w.drew _)
      have hk1 := hk0.weaken (N' := fun k => (β id).blk = some k ∧ True) fun _ h => h.elim
      obtain ⟨β', g1, g2, g3⟩ := fin _ w.heap.size (grownCap w (rows.length + s.length) (β id).cap e) _ _ (.inl ⟨rfl, by simp⟩) hk1 ⟨rfl, rfl, rfl⟩ (heap_alloc_new w.drew _) (hall.append hally)
        (by
          simp only [Array.toList_append, List.flatten_append, ← hcells]
          exact List.take_left' (by rw [List.length_append, hcl, hfy, Nat.mul_one]))
        (by
          simp only [Array.size_append, List.size_toArray, size_zeroCells, hzs, hcl, hfy, his, hsz]
          omega) hge hcm'
      exact ⟨_, _, β', hrun, g1, g2, g3, toK hk1⟩

end
end Go.Dec

namespace Go.Dec
section
variable {β : Nat → Pl} {w : World} {T : Tab} {C : Ctx}

/-- What is known behind one operation. -/
def After (C : Ctx) (β : Nat → Pl) (σ : St) (a : Act) (w : World) (o : Oper) (v : V) (h' : List Ob) : Prop :=
  ∃ β' w' n v', (execOp a.eval o).run C.P w = .ok n w' ∧ (n = .value v' ∨ (n = .skip ∧ v' = undef)) ∧ Moves β β' ∧ Keep (C.N β σ.h) w w' ∧ Sim C β' { σ with h := h' } a w' ∧ v.Rel β' w' (C.N β' h') v'

theorem After.read {σ : St} {a : Act} {o : Oper} {v : V} (hs : Sim C β σ a w) (h : ∃ v', (execOp a.eval o).run C.P w = .ok (.value v') w ∧ v.Rel β w (C.N β σ.h) v') : After C β σ a w o v σ.h := by
  obtain ⟨v', h1, h2⟩ := h
  exact ⟨β, w, _, v', h1, .inl rfl, Moves.refl β, Keep.refl _ w, hs, h2⟩

theorem run_value {m : Sem Value} {P : Program} {y : Value} (h : m.run P w = .ok y w) : (do pure (Next.value (← m)) : Sem Next).run P w = .ok (.value y) w := by
  rw [Sem.run_bind, h]; rfl

theorem caps_rel {σ : St} {a : Act} (hs : Sim C β σ a w) : ∀ {xs : List Operand} {ls : List L}, caps σ xs = some ls → L.Rels1 β w (C.N β σ.h) ls (xs.map a.eval)
  | [], ls, h => by simp only [caps, Option.some.injEq] at h; subst h; simp only [L.Rels1, List.map_nil]
  | x :: xs, ls, h => by
    simp only [caps] at h
    split at h
    · rename_i l r hl hr
      simp only [Option.some.injEq] at h
      subst h
      simp only [L.Rels1, List.map_cons]
      have hx := ovl_rel hs x
      rw [hl] at hx
      exact ⟨_, _, rfl, hx, caps_rel hs hr⟩
    · cases h

theorem elemTy_spec {t e : TypeId} {te : Ty} {ti : TI} (h : elemTy T t = some (e, te, ti)) : ∃ ts, T.get t = some ts ∧ ts.k = .slice e ∧ T.get e = some ti ∧ ti.ty = some te ∧ ti.size = te.size ∧ 0 < te.size ∧ 0 < ti.bytes := by
  unfold elemTy at h
  split at h
  · rename_i ts hts
    split at h
    · rename_i e' hk
      split at h
      · rename_i ti' hti
        split at h
        · rename_i te' hte
          split at h
          · rename_i hc
            simp only [Option.some.injEq, Prod.mk.injEq] at h
            obtain ⟨rfl, rfl, rfl⟩ := h
            simp only [Bool.and_eq_true] at hc
            obtain ⟨⟨h1, h2⟩, h3⟩ := hc
            exact ⟨ts, hts, hk, hti, hte, Nat.eq_of_beq_eq_true h1, Nat.le_of_ble_eq_true h2, Nat.le_of_ble_eq_true h3⟩
          · cases h
        · cases h
      · cases h
    · cases h
  · cases h

theorem elems_rel {σ : St} {a : Act} {te : Ty} (hs : Sim C β σ a w) : ∀ {k : Nat} {xs : List (Nat × Operand)} {ys : List te.den}, elems σ te k xs = some ys →
    ∃ css, All2 (fun x c => te.Rel w (C.N β σ.h) x c) ys css ∧ css = xs.map (fun p => (a.eval p.2).cells.toList) ∧ ∀ i p, xs[i]? = some p → p.1 = k + i
  | k, [], ys, h => by
    simp only [elems, Option.some.injEq] at h
    subst h
    exact ⟨[], trivial, rfl, by simp⟩
  | k, (i, x) :: xs, ys, h => by
    simp only [elems] at h
    split at h
    · rename_i hi
      split at h
      · rename_i ls hls
        split at h
        · rename_i _ y zs hy hr
          simp only [Option.some.injEq] at h
          subst h
          obtain ⟨css, h1, h2, h3⟩ := elems_rel hs hr
          have hx := V.leaves_rel hls (ovl_rel hs x)
          refine ⟨(a.eval x).cells.toList :: css, ⟨implode_all_rel hy hx, h1⟩, by rw [h2]; rfl, fun j p hp => ?_⟩
          cases j with
          | zero =>
            simp only [List.getElem?_cons_zero, Option.some.injEq] at hp
            subst hp
            exact Nat.eq_of_beq_eq_true hi
          | succ j =>
            have := h3 j p (by simpa using hp)
            omega
        · cases h
      · cases h
    · cases h

/-- A row is filled, element by element. -/
theorem fill_row (size : Nat) : ∀ (ps : List (Nat × Value)) (k : Nat) (cs : Array Value), (∀ i p, ps[i]? = some p → p.1 = k + i) → (∀ p ∈ ps, p.2.cells.size = size) → cs.size = (k + ps.length) * size →
    ∃ cs' : Array Value, Instr.fill (fun i => some (i * size, size)) cs ps = some cs' ∧ cs'.toList = cs.toList.take (k * size) ++ (ps.map fun p => p.2.cells.toList).flatten
  | [], k, cs, _, _, hs => ⟨cs, rfl, by rw [List.take_of_length_le (by simp at hs ⊢; omega)]; simp⟩
  | (i, v) :: ps, k, cs, h1, h2, hs => by
    have hi : i = k := by have := h1 0 (i, v) rfl; simpa using this
    subst hi
    have hv := h2 (i, v) (.head _)
    have hm : (i + 1 + ps.length) * size ≤ (i + (ps.length + 1)) * size := Nat.mul_le_mul_right _ (by omega)
    have hm2 : (i + 1) * size ≤ (i + (ps.length + 1)) * size := Nat.mul_le_mul_right _ (by omega)
    have hsm : (i + 1) * size = i * size + size := Nat.succ_mul _ _
    simp only [List.length_cons] at hs
    rw [fill_step _ cs i (i * size) size v ps rfl hv (by omega)]
    have hvl : v.cells.toList.length = size := by simpa using hv
    obtain ⟨cs', h3, h4⟩ := fill_row size ps (i + 1) (cs.toList.take (i * size) ++ v.cells.toList ++ cs.toList.drop (i * size + size)).toArray (fun j p hp => by have := h1 (j + 1) p (by simpa using hp); omega) (fun p hp => h2 p (.tail _ hp))
      (by simp only [List.size_toArray, List.length_append, List.length_take, List.length_drop, Array.length_toList, hvl]
          rw [show i + 1 + ps.length = i + (ps.length + 1) by omega]; omega)
    refine ⟨cs', h3, ?_⟩
    rw [h4]
    simp only [List.map_cons, List.flatten_cons]
    rw [List.take_left' (by simp only [List.length_append, List.length_take, Array.length_toList, hvl]; omega)]
    simp

theorem lenV_run {σ : St} {a : Act} {t : TypeId} {x : Operand} {v : V} (ty : TypeId) (hT : TabOK C.P T) (hs : Sim C β σ a w) (h : lenV T σ t x = some (true, v)) : ∃ z, (Builtin.len_ #[t] ty #[a.eval x]).run C.P w = .ok z w ∧ v.Rel β w (C.N β σ.h) z := by
  have hx := ovl_rel hs x
  unfold lenV at h
  split at h
  · rename_i ti l hti hl
    rw [hl] at hx
    have hok := hT _ _ hti
    split at h
    · rename_i n e hk
      simp only [Option.some.injEq, Prod.mk.injEq, true_and] at h
      subst h
      refine ⟨goInt n, ?_, by simp only [V.Rel, L.Rel, Ty.Rel, goInt]⟩
      have hu := hok.arr hk
      simp [Builtin.len_, run_underlying hu]
    · rename_i hk
      split at h
      · rename_i s
        simp only [Option.some.injEq, Prod.mk.injEq, true_and] at h
        subst h
        simp only [V.Rel, L.Rel, Ty.Rel, List.cons.injEq, and_true] at hx
        rw [hx]
        refine ⟨goInt s.length, ?_, by simp only [V.Rel, L.Rel, Ty.Rel, goInt]⟩
        have hu := hok.str hk
        simp [Builtin.len_, run_underlying hu, size_mk]
      · cases h
    · rename_i e hk
      split at h
      · rename_i c n hn
        simp only [Option.some.injEq, Prod.mk.injEq] at h
        obtain ⟨rfl, rfl⟩ := h
        have hu := hok.slice hk
        have hx := view_rel hs.heap (show l.Rel β w (C.N β σ.h) [a.eval x] from hx)
        generalize l.view σ.h = l' at hx hn
        have : ∃ b c, a.eval x = .slice b n.toNat c ∧ 0 ≤ n := by
          unfold slLen at hn
          split at hn
          · rename_i te xs
            simp only [Option.some.injEq, Prod.mk.injEq, true_and] at hn
            subst hn
            simp only [L.Rel, Ty.Rel] at hx
            obtain ⟨v', e1, hx⟩ := hx
            simp only [List.cons.injEq, and_true] at e1
            rw [e1]
            rcases hx with ⟨rfl, rfl⟩ | ⟨b, off, cap, css, rfl, _⟩ | ⟨ad, cap, rfl, rfl, _⟩
            · exact ⟨none, 0, rfl, by simp⟩
            · exact ⟨some ⟨b, off, none⟩, cap, by simp, by omega⟩
            · exact ⟨some ad, cap, by simp, by simp⟩
          · simp only [Option.some.injEq, Prod.mk.injEq, true_and] at hn
            subst hn
            simp only [L.Rel, List.cons.injEq, and_true] at hx
            exact ⟨none, 0, by simpa using hx, by simp⟩
          · rename_i id ver off len
            split at hn
            · rename_i e' te vv rows wr ho
              simp only [Option.some.injEq, Prod.mk.injEq] at hn
              obtain ⟨hv, rfl⟩ := hn
              have hv := Nat.eq_of_beq_eq_true hv
              have hob := hs.heap.obj _ _ ho
              simp only [Ob.Rel] at hob
              obtain ⟨_, _, hpv, _⟩ := hob
              simp only [L.Rel] at hx
              obtain ⟨_, _, _, c, hc, _, himp⟩ := hx
              have hsl := himp (by rw [hpv, hv])
              simp only [List.cons.injEq, and_true] at hc
              subst hc
              unfold SlOwn at hsl
              split at hsl
              · exact ⟨none, 0, by rw [hsl.1, hsl.2.2]; rfl, by omega⟩
              · obtain ⟨_, o, hsl, _⟩ := hsl
                exact ⟨_, _, by rw [hsl]; simp; exact ⟨rfl, rfl⟩, by omega⟩
            · cases hn
          · cases hn
        obtain ⟨b, c, hb, h0⟩ := this
        refine ⟨goInt n, ?_, by simp only [V.Rel, L.Rel, Ty.Rel, goInt]⟩
        rw [hb]
        simp [Builtin.len_, run_underlying hu, Int.toNat_of_nonneg h0]
      · cases h
    · cases h
  · cases h

theorem appendV_run {σ : St} {a : Act} {t : TypeId} {s x : Operand} {v : V} {h' : List Ob} (ty : TypeId) (hT : TabOK C.P T) (hs : Sim C β σ a w) (h : appendV T σ t s x = some (true, v, h')) :
    ∃ β' w' v', (Builtin.append_ #[t, t] ty #[a.eval s, a.eval x]).run C.P w = .ok v' w' ∧ Moves β β' ∧ Keep (C.N β σ.h) w w' ∧ Sim C β' { σ with h := h' } a w' ∧ v.Rel β' w' (C.N β' h') v' := by
  have hx := ovl_rel hs x
  have hsl := ovl_rel hs s
  unfold appendV at h
  split at h
  · rename_i e te ti ls lx het hls hlx
    obtain ⟨ts, hts, hk, hti, _, hsz, hpos, hby⟩ := elemTy_spec het
    rw [hlx] at hx
    rw [hls] at hsl
    split at h
    · rename_i c ys hys
      split at h
      · -- nils
        simp only [Option.some.injEq, Prod.mk.injEq, Bool.and_eq_true] at h
        obtain ⟨⟨rfl, hroom⟩, rfl, rfl⟩ := h
        have hy := rowsOf_rel hs.heap hys (show lx.Rel β w (C.N β σ.h) [a.eval x] from hx)
        simp only [V.Rel, L.Rel, List.cons.injEq, and_true] at hsl
        rw [hsl]
        obtain ⟨v', w', β', h1, h2, h3, h4, h5⟩ := appendNil_run ty hT hts hk hti hsz hpos hby (Nat.le_of_ble_eq_true hroom) hs hy
        exact ⟨β', w', v', h1, h2, h5, h3, h4⟩
      · rename_i id ver
        split at h
        · rename_i e' t' vv rows ho
          split at h
          · rename_i hh
            obtain ⟨e1, e2⟩ := hh
            subst e1 e2
            simp only [Option.some.injEq, Prod.mk.injEq, Bool.and_eq_true] at h
            obtain ⟨⟨rfl, hv, hroom⟩, rfl, rfl⟩ := h
            have hv := Nat.eq_of_beq_eq_true hv
            subst hv
            have hy := rowsOf_rel hs.heap hys (show lx.Rel β w (C.N β σ.h) [a.eval x] from hx)
            have hob := hs.heap.obj _ _ ho
            simp only [Ob.Rel] at hob
            obtain ⟨_, _, hpv, _, _, hpl, _⟩ := hob
            simp only [V.Rel, L.Rel] at hsl
            obtain ⟨_, _, _, c, hc, _, himp⟩ := hsl
            have hso := himp hpv
            simp only [List.cons.injEq, and_true] at hc
            subst hc
            rw [hpl] at hso
            obtain ⟨v', w', β', h1, h2, h3, h4, h5⟩ := appendOwn_run ty hT hts hk hti hsz hby (Nat.le_of_ble_eq_true hroom) hs ho (Nat.le_refl _) hso hy
            rw [List.take_length] at h3 h4
            exact ⟨β', w', v', h1, h2, h5, h3, h4⟩
          · cases h
        · cases h
      · rename_i id ver off len
        split at h
        · rename_i e' t' vv rows ho
          split at h
          · rename_i hh
            obtain ⟨e1, e2⟩ := hh
            subst e1 e2
            simp only [Option.some.injEq, Prod.mk.injEq, Bool.and_eq_true] at h
            obtain ⟨⟨rfl, hv, hoff, hlen, hroom⟩, rfl, rfl⟩ := h
            have hv := Nat.eq_of_beq_eq_true hv
            have hoff := Nat.eq_of_beq_eq_true hoff
            subst hv hoff
            have hy := rowsOf_rel hs.heap hys (show lx.Rel β w (C.N β σ.h) [a.eval x] from hx)
            have hob := hs.heap.obj _ _ ho
            simp only [Ob.Rel] at hob
            obtain ⟨_, _, hpv, _, _, hpl, _⟩ := hob
            simp only [V.Rel, L.Rel] at hsl
            obtain ⟨_, _, _, c, hc, _, himp⟩ := hsl
            have hso := himp hpv
            simp only [List.cons.injEq, and_true] at hc
            subst hc
            obtain ⟨v', w', β', h1, h2, h3, h4, h5⟩ := appendOwn_run ty hT hts hk hti hsz hby (Nat.le_of_ble_eq_true hroom) hs ho (Nat.le_of_ble_eq_true hlen) hso hy
            exact ⟨β', w', v', h1, h2, h5, h3, h4⟩
          · cases h
        · cases h
      · cases h
    · cases h
  · cases h

theorem appendS_run {σ : St} {a : Act} {t t2 : TypeId} {s x : Operand} {v : V} {h' : List Ob} (ty : TypeId) (hT : TabOK C.P T) (hs : Sim C β σ a w) (h : appendS T σ t t2 s x = some (true, v, h')) :
    ∃ β' w' v', (Builtin.append_ #[t, t2] ty #[a.eval s, a.eval x]).run C.P w = .ok v' w' ∧ Moves β β' ∧ Keep (C.N β σ.h) w w' ∧ Sim C β' { σ with h := h' } a w' ∧ v.Rel β' w' (C.N β' h') v' := by
  have hx := ovl_rel hs x
  have hsl := ovl_rel hs s
  unfold appendS at h
  split at h
  · rename_i e _ ti tx id ver u het htx hls hlx
    obtain ⟨ts, hts, hk, hti, _, _, _, hby⟩ := elemTy_spec het
    rw [hlx] at hx
    rw [hls] at hsl
    split at h
    · rename_i e' vv rows hkx ho
      simp only [Option.some.injEq, Prod.mk.injEq, Bool.and_eq_true] at h
      obtain ⟨⟨he, hsz, hv, hroom⟩, rfl, rfl⟩ := h
      have he := Nat.eq_of_beq_eq_true he
      have hsz := Nat.eq_of_beq_eq_true hsz
      have hv := Nat.eq_of_beq_eq_true hv
      subst he hv
      have hob := hs.heap.obj _ _ ho
      simp only [Ob.Rel] at hob
      obtain ⟨_, _, hpv, _, _, hpl, _⟩ := hob
      simp only [V.Rel, L.Rel] at hsl
      obtain ⟨_, _, _, c, hc, _, himp⟩ := hsl
      have hso := himp hpv
      simp only [List.cons.injEq, and_true] at hc
      subst hc
      rw [hpl] at hso
      simp only [V.Rel, L.Rel, Ty.Rel, List.cons.injEq, and_true] at hx
      rw [hx]
      obtain ⟨v', w', β', h1, h2, h3, h4, h5⟩ := appendStr_run ty hT hts hk htx hkx hti hsz hby (Nat.le_of_ble_eq_true hroom) hs ho hso
      exact ⟨β', w', v', h1, h2, h5, h3, h4⟩
    · cases h
  · cases h

theorem builtin_run {a : Act} {o : Oper} {b : Builtin} {args : Array Operand} {ts : Array TypeId} {x : Value} {w' : World} (ho : o.op = .call { callee := .builtin b, args, argTypes := ts })
    (h : (builtin b ts o.type (args.map fun | .const _ => true | _ => false) (args.map a.eval)).run C.P w = .ok (.value x) w') : (execOp a.eval o).run C.P w = .ok (.value x) w' := by
  simp only [execOp, ho, resolve, Sem.run_bind, Sem.run_pure, Result.andThen_ok, invoke]
  exact h

theorem madeCells_flatten {z : Array Value} {size : Nat} (hz : z.size = size) (hpos : 0 < size) (k : Nat) : (madeCells z (k * size)).toList = (List.replicate k z.toList).flatten := by
  have hl : ∀ c ∈ List.replicate k z.toList, c.length = size := fun c hc => by rw [List.eq_of_mem_replicate hc]; simpa using hz
  apply List.ext_getElem?
  intro j
  by_cases hj : j < k * size
  · have h1 : j / size < k := Nat.div_lt_of_lt_mul (by rw [Nat.mul_comm]; exact hj)
    have h2 : j % size < size := Nat.mod_lt _ hpos
    have h3 := flatten_at (List.replicate k z.toList) hl (j / size) (j % size) (by simpa using h1) h2
    have h4 : j / size * size + j % size = j := by rw [Nat.mul_comm]; exact Nat.div_add_mod j size
    rw [h4] at h3
    rw [h3]
    have h5 : j % size < z.size := by omega
    simp only [madeCells, Array.toList_map, List.getElem?_map, Array.getElem?_toList, hz]
    rw [Array.getElem?_eq_getElem (by simpa using hj)]
    simp [h5]
  · have h1 : (List.replicate k z.toList).flatten.length = k * size := by rw [flatten_length _ hl]; simp
    have h2 : (madeCells z (k * size)).toList.length = k * size := by simp [size_madeCells]
    rw [List.getElem?_eq_none (by omega), List.getElem?_eq_none (by omega)]

theorem same_refl (w : World) : Same w w := ⟨rfl, rfl, rfl⟩

theorem LsRel.moved {β' : Nat → Pl} {w' : World} {N N' : Nat → Prop} {ls : List L} {cs : List Value} (h : LsRel β w N ls cs) (hm : Moves β β') (hk : Keep N w w') (hN : ∀ b, b < w.heap.size → N' b → N b) : LsRel β' w' N' ls cs := h.mono hm hk hN

theorem stepOp_sim {σ : St} {a : Act} {o : Oper} {v : V} {h' : List Ob} (hT : TabOK C.P T) (hs : Sim C β σ a w) (h : stepOp T σ o = some (true, v, h')) : After C β σ a w o v h' := by
  unfold stepOp at h
  split at h
  · -- move
    rename_i x ho
    simp only [Option.some.injEq, Prod.mk.injEq, true_and] at h
    obtain ⟨rfl, rfl⟩ := h
    exact After.read hs ⟨_, by simp only [execOp, ho]; rfl, ovl_rel hs x⟩
  · rename_i x ho
    simp only [Option.some.injEq, Prod.mk.injEq, true_and] at h
    obtain ⟨rfl, rfl⟩ := h
    exact After.read hs ⟨_, by simp only [execOp, ho]; rfl, ovl_rel hs x⟩
  · -- unOp
    rename_i op _ x ho
    have hx := ovl_rel hs x
    split at h
    · rename_i l hl
      rw [hl] at hx
      split at h
      · rename_i c r hr
        simp only [Option.some.injEq, Prod.mk.injEq] at h
        obtain ⟨rfl, rfl, rfl⟩ := h
        obtain ⟨y, h1, h2⟩ := un_run (C := C) hr hx
        exact After.read hs ⟨y, by simp only [execOp, ho]; exact run_value h1, h2⟩
      · cases h
    · cases h
  · -- binOp
    rename_i op xt x y _ ho
    split at h
    · rename_i c r hr
      simp only [Option.some.injEq, Prod.mk.injEq] at h
      obtain ⟨rfl, rfl, rfl⟩ := h
      obtain ⟨z, h1, h2⟩ := binV_run hT hs hr
      exact After.read hs ⟨z, by simp only [execOp, ho]; exact run_value h1, h2⟩
    · cases h
  · -- convert
    rename_i s d x ho
    split at h
    · rename_i c r hr
      simp only [Option.some.injEq, Prod.mk.injEq] at h
      obtain ⟨rfl, rfl, rfl⟩ := h
      obtain ⟨z, h1, h2⟩ := convV_run hT hs hr
      exact After.read hs ⟨z, by simp only [execOp, ho]; exact run_value h1, h2⟩
    · cases h
  · -- fieldAddr
    rename_i s x f ho
    have hx := ovl_rel hs x
    split at h
    · rename_i ti l hti hl
      rw [hl] at hx
      split at h
      · rename_i fs hk
        split at h
        · rename_i off ft hf
          split at h
          · rename_i tf htf
            split at h
            · rename_i hz
              split at h
              · rename_i c r hr
                simp only [Option.some.injEq, Prod.mk.injEq] at h
                obtain ⟨rfl, rfl, rfl⟩ := h
                obtain ⟨y, h1, h2⟩ := ptrField_run hT hti hk hf htf (Nat.le_of_ble_eq_true hz) hr hs.heap hx
                exact After.read hs ⟨y, by simp only [execOp, ho]; exact run_value h1, h2⟩
              · cases h
            · cases h
          · cases h
        · cases h
      · cases h
    · cases h
  · -- indexAddr
    rename_i t x i ho
    have hx := ovl_rel hs x
    split at h
    · rename_i ti l k n hti hl hn
      rw [hl] at hx
      split at h
      · rename_i c r hr
        simp only [Option.some.injEq, Prod.mk.injEq] at h
        obtain ⟨rfl, rfl, rfl⟩ := h
        obtain ⟨y, h1, h2⟩ := idxAddr_run (k := k) hT hti hr hs.heap (view_rel hs.heap hx)
        exact After.read hs ⟨y, by simp only [execOp, ho, intOfV_rel hn (ovl_rel hs i)]; exact run_value h1, h2⟩
      · cases h
    · cases h
  · -- index
    rename_i t x i ho
    split at h
    · rename_i ti k n hti hn
      split at h
      · rename_i hk
        split at h
        · rename_i c r hr
          simp only [Option.some.injEq, Prod.mk.injEq] at h
          obtain ⟨rfl, rfl, rfl⟩ := h
          obtain ⟨y, h1, h2⟩ := idx_run (σh := σ.h) (k := k) hT hti hk hr (ovl_rel hs x)
          exact After.read hs ⟨y, by simp only [execOp, ho, intOfV_rel hn (ovl_rel hs i)]; exact run_value h1, h2⟩
        · cases h
      · cases h
    · cases h
  · -- slice
    rename_i t x lo hi ho
    have hx := ovl_rel hs x
    split at h
    · rename_i ti l l0 h0 hti hl hlo hhi
      rw [hl] at hx
      have hx2 := view_rel hs.heap (show l.Rel β w (C.N β σ.h) [a.eval x] from hx)
      have hb : ∀ (q : Option Operand) (m : Option Int), optInt σ q = some m → ∃ k, q.map a.eval = m.map (.int k) := by
        intro q m hq
        cases q with
        | none => simp only [optInt, Option.some.injEq] at hq; subst hq; exact ⟨.i64, rfl⟩
        | some q =>
          simp only [optInt] at hq
          split at hq
          · rename_i k n hn
            simp only [Option.some.injEq] at hq
            subst hq
            exact ⟨k, by simp [intOfV_rel hn (ovl_rel hs q)]⟩
          · cases hq
      obtain ⟨kl, hkl⟩ := hb lo l0 hlo
      obtain ⟨kh, hkh⟩ := hb hi h0 hhi
      split at h
      · rename_i c r hr
        have fin : (∀ e, ti.k = .slice e → ∃ te, T.get e = some te ∧ (∀ a xs, l.view σ.h = .val (.slice a) xs → a.size = te.size) ∧ (∀ id ver off len, l.view σ.h = .sl id ver off len → te.size = (β id).size)) → some (c, V.one r, σ.h) = some (true, v, h') → After C β σ a w o v h' := by
          intro hte h
          simp only [Option.some.injEq, Prod.mk.injEq] at h
          obtain ⟨rfl, rfl, rfl⟩ := h
          obtain ⟨y, h1, h2⟩ := slice_run (kl := kl) (kh := kh) hT hti hr hs.heap hx2 hte
          exact After.read hs ⟨y, by simp only [execOp, ho, hkl, hkh, Option.map_none]; exact run_value h1, h2⟩
        split at h
        · rename_i e hk
          split at h
          · rename_i te hte
            split at h
            · rename_i a0 xs hv
              split at h
              · rename_i hz
                refine fin (fun e' he' => ?_) h
                rw [hk] at he'
                simp only [TK.slice.injEq] at he'
                subst he'
                refine ⟨te, hte, fun a1 ys h1 => ?_, fun id ver off len h1 => ?_⟩
                · rw [hv] at h1
                  simp only [L.val.injEq, Ty.slice.injEq] at h1
                  obtain ⟨rfl, _⟩ := h1
                  exact Nat.eq_of_beq_eq_true hz
                · rw [hv] at h1; cases h1
              · cases h
            · rename_i id0 ver0 off0 len0 hv
              split at h
              · rename_i e0 a0 v0 rows0 wr0 ho0
                split at h
                · rename_i hz
                  refine fin (fun e' he' => ?_) h
                  rw [hk] at he'
                  simp only [TK.slice.injEq] at he'
                  subst he'
                  refine ⟨te, hte, fun a1 ys h1 => ?_, fun id ver off len h1 => ?_⟩
                  · rw [hv] at h1; cases h1
                  · rw [hv] at h1
                    simp only [L.sl.injEq] at h1
                    obtain ⟨rfl, _⟩ := h1
                    have hob := hs.heap.obj _ _ ho0
                    simp only [Ob.Rel] at hob
                    obtain ⟨_, _, _, hpz, _⟩ := hob
                    rw [hpz]
                    exact (Nat.eq_of_beq_eq_true hz).symm
                · cases h
              · cases h
            · cases h
          · cases h
        · rename_i hk
          exact fin (fun e he => by rw [hk] at he; cases he) h
        · cases h
      · cases h
    · cases h
  · -- build
    rename_i t parts ho
    split at h
    · rename_i c r hr
      simp only [Option.some.injEq, Prod.mk.injEq] at h
      obtain ⟨rfl, rfl, rfl⟩ := h
      obtain ⟨z, h1, h2⟩ := buildV_run hT hs hr
      exact After.read hs ⟨z, by simp only [execOp, ho]; exact run_value h1, h2⟩
    · cases h
  · -- extract
    rename_i x i ho
    split at h
    · rename_i r hr
      simp only [Option.some.injEq, Prod.mk.injEq, true_and] at h
      obtain ⟨rfl, rfl⟩ := h
      obtain ⟨z, h1, h2⟩ := ext_run (C := C) hr (ovl_rel hs x)
      exact After.read hs ⟨z, by simp only [execOp, ho]; exact run_value h1, h2⟩
    · cases h
  · -- load
    rename_i t x ho
    have hx := ovl_rel hs x
    split at h
    · rename_i l hl
      rw [hl] at hx
      split at h
      · rename_i c r hr
        simp only [Option.some.injEq, Prod.mk.injEq] at h
        obtain ⟨rfl, rfl, rfl⟩ := h
        obtain ⟨z, h1, h2⟩ := loadAt_run hT hr hs.heap hx
        exact After.read hs ⟨z, by simp only [execOp, ho]; exact run_value h1, h2⟩
      · cases h
    · cases h
  · -- store
    rename_i t x y ho
    have hx := ovl_rel hs x
    split at h
    · rename_i l hl
      rw [hl] at hx
      split at h
      · rename_i c r hr
        simp only [Option.some.injEq, Prod.mk.injEq] at h
        obtain ⟨rfl, rfl, rfl⟩ := h
        obtain ⟨w', h1, h2, h3⟩ := storeAt_run hT hr hs hx (ovl_rel hs y)
        exact ⟨β, w', .skip, undef, by simp only [execOp, ho, Sem.run_bind, h1, Result.andThen_ok, Sem.run_pure], .inr ⟨rfl, rfl⟩, Moves.refl β, h3, h2, trivial⟩
      · cases h
    · cases h
  · -- nilCheck
    rename_i x ho
    have hx := ovl_rel hs x
    have fin : ∀ l : L, ovl σ x = .one l → (∃ b, a.eval x = .pointer (some b)) ∨ (∃ f p q, a.eval x = .func (.func f) p q) → After C β σ a w o (.one l) σ.h := by
      intro l hl hp
      rw [hl] at hx
      refine After.read hs ⟨a.eval x, ?_, hx⟩
      rcases hp with ⟨b, hb⟩ | ⟨f, p, q, hb⟩ <;> (simp only [execOp, ho, hb]; rfl)
    split at h
    · rename_i id off hl
      simp only [Option.some.injEq, Prod.mk.injEq, true_and] at h
      obtain ⟨rfl, rfl⟩ := h
      refine fin _ hl (.inl ?_)
      rw [hl] at hx
      simp only [V.Rel, L.Rel, List.cons.injEq, and_true] at hx
      obtain ⟨_, _, b, _, hx⟩ := hx
      exact ⟨_, hx⟩
    · rename_i id off es i sub hl
      simp only [Option.some.injEq, Prod.mk.injEq, true_and] at h
      obtain ⟨rfl, rfl⟩ := h
      refine fin _ hl (.inl ?_)
      rw [hl] at hx
      simp only [V.Rel, L.Rel, List.cons.injEq, and_true] at hx
      obtain ⟨_, _, b, _, hx⟩ := hx
      exact ⟨_, hx⟩
    · rename_i t y off hl
      simp only [Option.some.injEq, Prod.mk.injEq, true_and] at h
      obtain ⟨rfl, rfl⟩ := h
      refine fin _ hl (.inl ?_)
      rw [hl] at hx
      simp only [V.Rel, L.Rel, List.cons.injEq, and_true] at hx
      obtain ⟨c, hx, b, o', cs, rfl, _⟩ := hx
      exact ⟨_, hx⟩
    · rename_i f cs hl
      simp only [Option.some.injEq, Prod.mk.injEq, true_and] at h
      obtain ⟨rfl, rfl⟩ := h
      refine fin _ hl (.inr ?_)
      rw [hl] at hx
      simp only [V.Rel, L.Rel, List.cons.injEq, and_true] at hx
      obtain ⟨us, hx, _⟩ := hx
      exact ⟨_, _, _, hx⟩
    · rename_i f p q hl
      simp only [Option.some.injEq, Prod.mk.injEq, true_and] at h
      obtain ⟨rfl, rfl⟩ := h
      refine fin _ hl (.inr ?_)
      rw [hl] at hx
      simp only [V.Rel, L.Rel, Ty.Rel, List.cons.injEq, and_true] at hx
      exact ⟨_, _, _, hx.1⟩
    · cases h
  · -- makeFunc
    rename_i f first cs ho
    split at h
    · rename_i h0
      split at h
      · rename_i ls hls
        simp only [Option.some.injEq, Prod.mk.injEq, true_and] at h
        obtain ⟨rfl, rfl⟩ := h
        have hr := caps_rel hs hls
        refine After.read hs ⟨.func (.func f) #[] (cs.map a.eval), ?_, ?_⟩
        · have : first = #[] := Array.eq_empty_of_size_eq_zero h0
          subst this
          simp only [execOp, ho, Instr.makeFunc, Array.map_empty]
          rfl
        · simp only [V.Rel, L.Rel]
          exact ⟨_, by rw [← Array.toList_map], hr⟩
      · cases h
    · cases h
  · -- box
    rename_i e x ho
    split at h
    · rename_i ls hls
      simp only [Option.some.injEq, Prod.mk.injEq, true_and] at h
      obtain ⟨rfl, rfl⟩ := h
      have hr := V.leaves_rel hls (ovl_rel hs x)
      obtain ⟨β', h1, h2, h3⟩ := newBox (e := e) hs hr
      refine ⟨β', _, _, .pointer (some ⟨w.heap.size, 0, none⟩), ?_, .inl rfl, h1, (keep_alloc w _).weaken fun _ h => h.elim, h2, h3⟩
      simp only [execOp, ho, Instr.box, newVar, newRow, Sem.run_bind, run_newObj, Result.andThen_ok, Sem.run_pure]
      rfl
    · cases h
  · -- alloc
    rename_i e ho
    split at h
    · rename_i ti hti
      simp only [Option.some.injEq, Prod.mk.injEq, true_and] at h
      obtain ⟨rfl, rfl⟩ := h
      obtain ⟨i, z, hi, his, hib, hz, hzok, hzs, _⟩ := (hT _ _ hti).i
      obtain ⟨β', h1, h2, h3⟩ := newBox (e := e) hs (hzok β w (C.N β σ.h))
      refine ⟨β', _, _, .pointer (some ⟨w.heap.size, 0, none⟩), ?_, .inl rfl, h1, (keep_alloc w _).weaken fun _ h => h.elim, h2, h3⟩
      have hzv : (zeroValue e).run C.P w = .ok z w := by simp [zeroValue, typeInfo, hi, hz]
      simp only [execOp, ho, Instr.alloc, Sem.run_bind, hzv, Result.andThen_ok, newVar, newRow, run_newObj, Sem.run_pure]
      rfl
    · cases h
  · -- buildSlice
    rename_i t n parts ho
    split at h
    · rename_i e te ti het
      obtain ⟨ts, hts, hk, hti, htyy, hsz, hpos, hby⟩ := elemTy_spec het
      split at h
      · rename_i hc
        simp only [Bool.and_eq_true] at hc
        have hn := Nat.eq_of_beq_eq_true hc.1
        have hle := Nat.le_of_ble_eq_true hc.2
        split at h
        · rename_i ys hys
          simp only [Option.some.injEq, Prod.mk.injEq, true_and] at h
          obtain ⟨rfl, rfl⟩ := h
          obtain ⟨css, h1, h2, h3⟩ := elems_rel hs hys
          obtain ⟨i, z, hi, his, hib, hz, hzok, hzs, _⟩ := (hT _ _ hti).i
          have hlc := rel_lens h1
          have hps : ∀ p ∈ parts.toList.map (fun p => (p.1, a.eval p.2)), p.2.cells.size = te.size := fun p hp => by
            obtain ⟨q, hq, rfl⟩ := List.mem_map.1 hp
            have := hlc (a.eval q.2).cells.toList (by rw [h2]; exact List.mem_map.2 ⟨q, hq, rfl⟩)
            simpa using this
          have hylen : ys.length = parts.size := by rw [h1.length, h2]; simp
          obtain ⟨cs', hf1, hf2⟩ := fill_row te.size (parts.toList.map fun p => (p.1, a.eval p.2)) 0 ((Array.range (n * te.size)).map (z.cells[· % z.cells.size]!)) (fun j p hp => by
            simp only [List.getElem?_map, Option.map_eq_some_iff] at hp
            obtain ⟨q, hq, rfl⟩ := hp
            have := h3 j q hq
            omega) hps (by simp [hn])
          simp only [Nat.zero_mul, List.take_zero, List.nil_append, List.map_map] at hf2
          obtain ⟨β', g1, g2, g3⟩ := newArr (e := e) (cs := cs') hs hpos h1 (by rw [hf2, h2]; rfl) (by
            rw [hylen, ← hn]
            have : n * 1 ≤ n * te.size := Nat.mul_le_mul_left _ hpos
            simp only [maxLen]; omega)
          refine ⟨β', _, _, .slice (some ⟨w.heap.size, 0, none⟩) ys.length ys.length, ?_, .inl rfl, g1, (keep_alloc w _).weaken fun _ h => h.elim, g2, g3⟩
          have hu := (hT _ _ hts).slice hk
          have hzv : (zeroValue e).run C.P w = .ok z w := by simp [zeroValue, typeInfo, hi, hz]
          have hnle : ¬ (n * te.size > 2 ^ 24) := by omega
          simp only [execOp, ho, Instr.buildSlice, Sem.run_bind, run_underlying hu, Result.andThen_ok, (hT _ _ hti).sizeOf, hsz, hnle, if_false, Sem.run_pure]
          by_cases h0 : n * te.size = 0
          · have hn0 : n = 0 := by
              rcases Nat.mul_eq_zero.1 h0 with h | h
              · exact h
              · omega
            have hpe : parts = #[] := Array.eq_empty_of_size_eq_zero (by omega)
            subst hpe
            subst hn0
            have hys0 : ys = [] := List.eq_nil_of_length_eq_zero (by simpa using hylen)
            subst hys0
            have hcs0 : cs' = #[] := by simpa using hf2
            subst hcs0
            simp [Instr.fill, newRow, show Array.range 0 = #[] from rfl]
            try rfl
          · simp only [h0, if_false, Sem.run_bind, hzv, Result.andThen_ok, Sem.run_pure]
            rw [Array.toList_map, hf1]
            simp only [Sem.run_bind, newRow, run_newObj, Result.andThen_ok, Sem.run_pure, hylen, hn]
            rfl
        · cases h
      · cases h
    · cases h
  · -- makeSlice
    rename_i t l c ho
    split at h
    · rename_i e te ti n m het hn hm
      obtain ⟨ts, hts, hk, hti, htyy, hsz, hpos, hby⟩ := elemTy_spec het
      split at h
      · rename_i z0 hz0
        simp only [Option.some.injEq, Prod.mk.injEq, Bool.and_eq_true] at h
        obtain ⟨⟨h0, hnm, hroom⟩, rfl, rfl⟩ := h
        have h0 := of_decide_eq_true h0
        have hnm := of_decide_eq_true hnm
        have hroom := Nat.le_of_ble_eq_true hroom
        subst hnm
        obtain ⟨i, z, hi, his, hib, hz, hzok, hzs, _⟩ := (hT _ _ hti).i
        have hu := (hT _ _ hts).slice hk
        have hrz := implode_all_rel hz0 (hzok β w (C.N β σ.h))
        obtain ⟨k, rfl⟩ : ∃ k : Nat, n = k := ⟨n.toNat, by omega⟩
        rw [Int.toNat_natCast] at hroom
        unfold room at hroom
        have hkb : k ≤ k * ti.bytes := Nat.le_mul_of_pos_right _ hby
        have hrun := run_make (P := C.P) w t e i z hu hi hz .i64 .i64 (k : Int) (k : Int) (by omega) (Int.le_refl _) (by
          have h : ((i.bytes * k : Nat) : Int) ≤ 281474976710656 := by rw [hib, Nat.mul_comm]; omega
          rwa [Int.natCast_mul] at h) (by omega)
        simp only [Int.toNat_natCast] at hrun
        have hzz : z.cells.size = te.size := by rw [hzs, his, hsz]
        have hal : All2 (fun x c => te.Rel w (C.N β σ.h) x c) (List.replicate k z0) (List.replicate k z.cells.toList) := All2.replicate hrz k
        obtain ⟨β', g1, g2, g3⟩ := newArr (e := e) (cs := madeCells z.cells (k * i.size)) hs hpos hal (by rw [his, hsz]; exact madeCells_flatten hzz hpos k) (by simp only [List.length_replicate, maxLen]; omega)
        rw [List.length_replicate] at g3
        refine ⟨β', _, _, .slice (some ⟨w.heap.size, 0, none⟩) k k, ?_, .inl rfl, g1, (keep_alloc w _).weaken fun _ h => h.elim, g2, g3⟩
        simp only [execOp, ho, intOfV_rel hn (ovl_rel hs l), intOfV_rel hm (ovl_rel hs c), Sem.run_bind, hrun]
        rfl
      · cases h
    · cases h
  · -- builtins
    rename_i b args ts ho
    split at h
    · rename_i x t hargs hts
      split at h
      · rename_i c r hr
        simp only [Option.some.injEq, Prod.mk.injEq] at h
        obtain ⟨rfl, rfl, rfl⟩ := h
        have e1 : args = #[x] := by apply Array.toList_inj.1; simpa using hargs
        have e2 : ts = #[t] := by apply Array.toList_inj.1; simpa using hts
        subst e1 e2
        obtain ⟨z, h1, h2⟩ := lenV_run o.type hT hs hr
        exact After.read hs ⟨z, builtin_run ho (run_value (by simpa using h1)), h2⟩
      · cases h
    · rename_i s x t t' hargs hts
      split at h
      · rename_i htt
        have htt := Nat.eq_of_beq_eq_true htt
        subst htt
        have e1 : args = #[s, x] := by apply Array.toList_inj.1; simpa using hargs
        have e2 : ts = #[t, t] := by apply Array.toList_inj.1; simpa using hts
        subst e1 e2
        obtain ⟨β', w', v', h1, h2, h3, h4, h5⟩ := appendV_run o.type hT hs h
        refine ⟨β', w', _, v', builtin_run (x := v') ho ?_, .inl rfl, h2, h3, h4, h5⟩
        simp only [builtin, Sem.run_bind]
        have h1' : (Builtin.append_ #[t, t] o.type (Array.map a.eval #[s, x])).run C.P w = .ok v' w' := by simpa using h1
        rw [h1']
        rfl
      · have e1 : args = #[s, x] := by apply Array.toList_inj.1; simpa using hargs
        have e2 : ts = #[t, t'] := by apply Array.toList_inj.1; simpa using hts
        subst e1 e2
        obtain ⟨β', w', v', h1, h2, h3, h4, h5⟩ := appendS_run o.type hT hs h
        refine ⟨β', w', _, v', builtin_run (x := v') ho ?_, .inl rfl, h2, h3, h4, h5⟩
        simp only [builtin, Sem.run_bind]
        have h1' : (Builtin.append_ #[t, t'] o.type (Array.map a.eval #[s, x])).run C.P w = .ok v' w' := by simpa using h1
        rw [h1']
        rfl
    · rename_i x y hargs
      split at h
      · rename_i k p k2 q hp hq
        simp only [Option.some.injEq, Prod.mk.injEq, true_and] at h
        obtain ⟨rfl, rfl⟩ := h
        have e1 : args = #[x, y] := by apply Array.toList_inj.1; simpa using hargs
        subst e1
        have hx := intOfV_rel hp (ovl_rel hs x)
        have hy := intOfV_rel hq (ovl_rel hs y)
        refine After.read hs ⟨.int k (if q < p then q else p), builtin_run ho ?_, by simp only [V.Rel, L.Rel, Ty.Rel]⟩
        simp [builtin, Builtin.min_, Builtin.min2, hx, hy]
      · cases h
    · rename_i x y hargs
      split at h
      · rename_i k p k2 q hp hq
        simp only [Option.some.injEq, Prod.mk.injEq, true_and] at h
        obtain ⟨rfl, rfl⟩ := h
        have e1 : args = #[x, y] := by apply Array.toList_inj.1; simpa using hargs
        subst e1
        have hx := intOfV_rel hp (ovl_rel hs x)
        have hy := intOfV_rel hq (ovl_rel hs y)
        refine After.read hs ⟨.int k (if q > p then q else p), builtin_run ho ?_, by simp only [V.Rel, L.Rel, Ty.Rel]⟩
        simp [builtin, Builtin.max_, Builtin.max2, hx, hy]
      · cases h
    · cases h
  · cases h

end
end Go.Dec

namespace Go.Dec
open Go.Lib

/-- Elements put into an array. -/
def setElems (σ : St) (te : Ty) : List (Nat × Operand) → List te.den → Option (List te.den)
  | [], xs => some xs
  | (i, x) :: r, xs =>
    match (ovl σ x).leaves with
    | some ls =>
      match implode te ls with
      | some (y, []) => match Nat.blt i xs.length with
        | true => setElems σ te r (xs.set i y)
        | false => none
      | _ => none
    | none => none

/-- An operation that is told here: by its form, and the types, alone. -/
def isX (T : Tab) (o : Oper) : Bool :=
  match o.op with
  | .unOp .xor _ _ => true
  | .build t _ => match T.get t with
    | some ti => match ti.k with | .arr .. => true | _ => false
    | none => false
  | .index t _ _ => match T.get t with
    | some ti => match ti.k with | .arr .. => true | _ => false
    | none => false
  | .convert s d _ => match T.get s, T.get d with
    | some ts, some td => match ts.k, td.k with
      | .slice _, .str => true
      | .str, .slice _ => true
      | _, _ => false
    | _, _ => false
  | _ => false

def arrTy (ls : List L) : Option (Nat × (te : Ty) × List te.den) :=
  match ls with
  | [.val (.arr n te) xs] => some (n, ⟨te, xs⟩)
  | _ => none

def bytesToS (ys : List Int) : List UInt8 := ys.map fun n => UInt8.ofNat n.toNat

def stepX (T : Tab) (σ : St) (o : Oper) : Option (Bool × V × List Ob) :=
  match o.op with
  | .unOp .xor _ x => match ovl σ x with
    | .one (.val (.int k) n) => some (true, .one (.val (.int k) (ibits k .xor (if k.signed then -1 else k.max) n)), σ.h)
    | _ => none
  | .build t parts => match T.get t with
    | some ti => match ti.k with
      | .arr n e => match T.get e, ti.zls with
        | some te, [.val (.arr m ty) xs] => if te.size = ty.size ∧ m = n then
            match setElems σ ty parts.toList xs with
            | some ys => some (true, .agg [.val (.arr m ty) ys], σ.h)
            | none => none
          else none
        | _, _ => none
      | _ => none
    | none => none
  | .index t x i => match T.get t, ovl σ x, intOfV (ovl σ i) with
    | some ti, .agg [.val (.arr m ty) xs], some (_, j) => match ti.k with
      | .arr n e => match T.get e with
        | some te => if te.size = ty.size ∧ m = n ∧ te.k.isAgg = ty.isAgg then
            match ty.isAgg with
            | true => some (inB j n, .agg (explode ty (getAt ty.dflt xs j)), σ.h)
            | false => some (inB j n, .one (.val ty (getAt ty.dflt xs j)), σ.h)
          else none
        | none => none
      | _ => none
    | _, _, _ => none
  | .convert s d x => match T.get s, T.get d, ovl σ x with
    | some ts, some td, .one l => match ts.k, td.k with
      | .slice e, .str => match T.get e with
        | some te => match te.k with
          | .int .u8 => match rowsOf σ.h (.int .u8) l with
            | some (c, ys) => some (c, .one (.val .str (bytesToS ys)), σ.h)
            | none => none
          | _ => none
        | none => none
      | .str, .slice e => match T.get e, l with
        | some te, .val .str s => match te.k with
          | .int .u8 => some (Nat.ble s.length room, .one (.val (.slice (.int .u8)) (sToBytes s)), σ.h)
          | _ => none
        | _, _ => none
      | _, _ => none
    | _, _, _ => none
  | _ => none

/-- One operation. -/
def stepA (T : Tab) (σ : St) (o : Oper) : Option (Bool × V × List Ob) :=
  match isX T o with
  | true => stepX T σ o
  | false => stepOp T σ o

theorem flatten_set {α : Type} {n : Nat} : ∀ (css : List (List α)) (i : Nat) (c : List α), (∀ d ∈ css, d.length = n) → c.length = n → i < css.length → (css.set i c).flatten = css.flatten.take (i * n) ++ c ++ css.flatten.drop (i * n + n)
  | [], i, c, _, _, h => by simp at h
  | d :: css, 0, c, hd, hc, _ => by
    have h1 := hd d (.head _)
    simp only [List.set_cons_zero, List.flatten_cons, Nat.zero_mul, List.take_zero, List.nil_append, Nat.zero_add]
    rw [List.drop_left' h1]
  | d :: css, i + 1, c, hd, hc, h => by
    have h1 := hd d (.head _)
    have ih := flatten_set css i c (fun e he => hd e (.tail _ he)) hc (by simpa using h)
    simp only [List.set_cons_succ, List.flatten_cons, ih]
    have e1 : (i + 1) * n = d.length + i * n := by rw [h1, Nat.succ_mul]; omega
    rw [e1, List.take_length_add_append, Nat.add_assoc, List.drop_length_add_append]
    simp

section
variable {β : Nat → Pl} {w : World} {T : Tab} {C : Ctx}

theorem setElems_fill {σ : St} {a : Act} {te : Ty} (hs : Sim C β σ a w) : ∀ {ps : List (Nat × Operand)} {xs ys : List te.den} {css : List (List Value)} {cs : Array Value}, setElems σ te ps xs = some ys →
    All2 (fun x c => te.Rel w (C.N β σ.h) x c) xs css → cs.toList = css.flatten →
    ∃ (css' : List (List Value)) (cs' : Array Value), Instr.fill (fun i => some (i * te.size, te.size)) cs (ps.map fun p => (p.1, a.eval p.2)) = some cs' ∧ cs'.toList = css'.flatten ∧ All2 (fun x c => te.Rel w (C.N β σ.h) x c) ys css' ∧ ys.length = xs.length
  | [], xs, ys, css, cs, h, hr, hc => by
    simp only [setElems, Option.some.injEq] at h
    subst h
    exact ⟨css, cs, rfl, hc, hr, rfl⟩
  | (i, x) :: ps, xs, ys, css, cs, h, hr, hc => by
    simp only [setElems] at h
    split at h
    · rename_i ls hls
      split at h
      · rename_i y hy
        split at h
        · rename_i hi
          have hi : i < xs.length := Nat.le_of_ble_eq_true hi
          have hx := implode_all_rel hy (V.leaves_rel hls (ovl_rel hs x))
          have hl := rel_lens hr
          have hcl : css.length = xs.length := hr.length.symm
          have hlen : (a.eval x).cells.size = te.size := by simpa using hx.length
          have hfl : cs.size = css.length * te.size := by
            have : cs.toList.length = css.flatten.length := by rw [hc]
            rw [flatten_length css hl] at this
            simpa using this
          have hfit : i * te.size + te.size ≤ cs.size := by
            rw [hfl, ← Nat.succ_mul]; exact Nat.mul_le_mul_right _ (by omega)
          have hset := flatten_set css i (a.eval x).cells.toList hl (by simpa using hlen) (by omega)
          obtain ⟨css', cs', h1, h2, h3, h4⟩ := setElems_fill hs (css := css.set i (a.eval x).cells.toList) (cs := (cs.toList.take (i * te.size) ++ (a.eval x).cells.toList ++ cs.toList.drop (i * te.size + te.size)).toArray) h (hr.set i hx) (by rw [hset, hc])
          refine ⟨css', cs', ?_, h2, h3, by rw [h4, List.length_set]⟩
          rw [List.map_cons, fill_step _ cs i (i * te.size) te.size _ _ rfl hlen hfit]
          exact h1
        · cases h
      · cases h
    · cases h

theorem cell_u8 {N : Nat → Prop} : ∀ {ys : List Int} {css : List (List Value)}, All2 (fun x c => (Ty.int .u8).Rel w N x c) ys css → css.flatten = ys.map (Value.int .u8)
  | [], [], _ => rfl
  | y :: ys, c :: css, h => by
    obtain ⟨h1, h2⟩ := h
    simp only [Ty.Rel] at h1
    subst h1
    simp [cell_u8 h2]
  | [], _ :: _, h => h.elim
  | _ :: _, [], h => h.elim

theorem stepX_sim {σ : St} {a : Act} {o : Oper} {v : V} {h' : List Ob} (hT : TabOK C.P T) (hs : Sim C β σ a w) (h : stepX T σ o = some (true, v, h')) : After C β σ a w o v h' := by
  unfold stepX at h
  split at h
  · -- xor
    rename_i _ x ho
    have hx := ovl_rel hs x
    split at h
    · rename_i k n hov
      rw [hov] at hx
      simp only [Option.some.injEq, Prod.mk.injEq, true_and] at h
      obtain ⟨rfl, rfl⟩ := h
      simp only [V.Rel, L.Rel, Ty.Rel, List.cons.injEq, and_true] at hx
      refine After.read hs ⟨.int k (ibits k .xor (if k.signed then -1 else k.max) n), ?_, by simp only [V.Rel, L.Rel, Ty.Rel]⟩
      simp only [execOp, ho]
      refine run_value ?_
      rw [hx]
      simp only [Op.unary, Op.intBits, ibits, Sem.run_pure]
    · cases h
  · -- array
    rename_i t parts ho
    split at h
    · rename_i ti hti
      split at h
      · rename_i n e hk
        split at h
        · rename_i tie m ty xs hte hz
          split at h
          · rename_i hc
            obtain ⟨hsz, rfl⟩ := hc
            split at h
            · rename_i ys hys
              simp only [Option.some.injEq, Prod.mk.injEq, true_and] at h
              obtain ⟨rfl, rfl⟩ := h
              have hok := hT _ _ hti
              have hu := hok.arr hk
              obtain ⟨_, z, hi, his, hib, hzz, hzok, hzs, hagz⟩ := hok.i
              have hz0 := hzok β w (C.N β σ.h)
              rw [hz] at hz0
              obtain ⟨c1, c2, ec, hr, h0⟩ := hz0
              simp only [LsRel] at h0
              subst h0
              rw [List.append_nil] at ec
              simp only [L.Rel, Ty.Rel] at hr
              obtain ⟨hxl, css, ec1, hall⟩ := hr
              obtain ⟨css', cs', h1, h2, h3, h4⟩ := setElems_fill hs (cs := z.cells) hys hall (by rw [ec, ec1])
              refine After.read hs ⟨.agg cs', ?_, ?_⟩
              · have hzv : (zeroValue t).run C.P w = .ok z w := by simp [zeroValue, typeInfo, hi, hzz]
                simp only [execOp, ho]
                refine run_value ?_
                simp only [Instr.build, Sem.run_bind, hzv, Result.andThen_ok, run_underlying hu, (hT _ _ hte).sizeOf, hsz, Array.toList_map]
                rw [h1]
                rfl
              · exact ⟨cs'.toList, rfl, LsRel.single' (by simp only [L.Rel, Ty.Rel]; exact ⟨by rw [h4, hxl], css', h2, h3⟩)⟩
            · cases h
          · cases h
        · cases h
      · cases h
    · cases h
  · -- index
    rename_i t x i ho
    split at h
    · rename_i ti m ty xs k j hti hx hi
      split at h
      · rename_i n e hk
        split at h
        · rename_i te hte
          split at h
          · rename_i hc
            obtain ⟨hsz, rfl, hagg⟩ := hc
            have hok := hT _ _ hti
            have hu := hok.arr hk
            have hxr := ovl_rel hs x
            rw [hx] at hxr
            obtain ⟨cs, ex, c1, c2, ec, hr, h0⟩ := hxr
            simp only [LsRel] at h0
            subst h0
            rw [List.append_nil] at ec
            subst ec
            simp only [L.Rel, Ty.Rel] at hr
            obtain ⟨hxl, css, ec1, hall⟩ := hr
            have hl := rel_lens hall
            have iv := intOfV_rel hi (ovl_rel hs i)
            have key : inB j m = true → ∃ (h2 : j.toNat < xs.length) (h3 : j.toNat < css.length), ty.Rel w (C.N β σ.h) (getAt ty.dflt xs j) css[j.toNat] ∧ (cs.drop (j.toNat * ty.size)).take ty.size = css[j.toNat] ∧ 0 ≤ j ∧ j < (m : Int) ∧ j.toNat * ty.size + ty.size ≤ cs.length := by
              intro hb
              obtain ⟨g0, g1, g2⟩ := inB_spec hb
              have h2 : j.toNat < xs.length := by omega
              have h3 : j.toNat < css.length := by rw [← hall.length]; exact h2
              refine ⟨h2, h3, ?_, ?_, g0, g1, ?_⟩
              · have := hall.get j.toNat h2 h3
                simpa [getAt, List.getD_eq_getElem?_getD, h2] using this
              · rw [ec1, flatten_drop css hl, List.drop_eq_getElem_cons h3, List.flatten_cons, List.take_left' (hl _ (List.getElem_mem h3))]
              · rw [ec1, flatten_length css hl, ← Nat.succ_mul]; exact Nat.mul_le_mul_right _ (by omega)
            obtain ⟨ie, ze, hie, hise, hibe, hzze, hzoke, hzse, hage⟩ := (hT _ _ hte).i
            have hagrun : (isAgg e).run C.P w = .ok te.k.isAgg w := by
              obtain ⟨d, hd, hdk⟩ := (hT _ _ hte).und
              simp only [isAgg, Sem.run_bind, run_underlying hd, Result.andThen_ok, ← hdk]
              cases d <;> rfl
            split at h
            · rename_i hag
              simp only [Option.some.injEq, Prod.mk.injEq] at h
              obtain ⟨hb, rfl, rfl⟩ := h
              obtain ⟨h2, h3, hrel, hcut, g0, g1, g2⟩ := key hb
              refine After.read hs ⟨.agg (cs.toArray.extract (j.toNat * ty.size) (j.toNat * ty.size + ty.size)), ?_, ?_⟩
              · simp only [execOp, ho]
                refine run_value ?_
                rw [iv, ex]
                simp only [Instr.index, asIntOf, Sem.run_bind, Sem.run_pure, Result.andThen_ok, run_underlying hu, g0, g1, and_self, if_true, (hT _ _ hte).sizeOf, part, hagrun, hagg, hag, hsz]
              · refine ⟨css[j.toNat], ?_, explode_rel hrel⟩
                congr 1
                apply Array.toList_inj.1
                simp only [Array.toList_extract, List.extract_eq_take_drop]
                rw [show j.toNat * ty.size + ty.size - j.toNat * ty.size = ty.size by omega, hcut]
            · rename_i hag
              simp only [Option.some.injEq, Prod.mk.injEq] at h
              obtain ⟨hb, rfl, rfl⟩ := h
              obtain ⟨h2, h3, hrel, hcut, g0, g1, g2⟩ := key hb
              have hone : ty.size = 1 := by cases ty <;> first | rfl | cases hag
              have hcl : css[j.toNat].length = 1 := by rw [hrel.length, hone]
              obtain ⟨u, hu1⟩ : ∃ u, css[j.toNat] = [u] := List.length_eq_one_iff.1 hcl
              rw [hu1, hone, Nat.mul_one] at hcut
              have hget : cs[j.toNat]? = some u := by
                have : (cs.drop j.toNat).take 1 = [u] := hcut
                have h5 : ((cs.drop j.toNat).take 1)[0]? = some u := by rw [this]; rfl
                rw [List.getElem?_take, if_pos (by omega), List.getElem?_drop] at h5
                simpa using h5
              rw [hu1] at hrel
              refine After.read hs ⟨u, ?_, by simp only [V.Rel, L.Rel]; exact hrel⟩
              simp only [execOp, ho]
              refine run_value ?_
              rw [iv, ex]
              simp only [Instr.index, asIntOf, Sem.run_bind, Sem.run_pure, Result.andThen_ok, run_underlying hu, g0, g1, and_self, if_true, (hT _ _ hte).sizeOf, part, hagrun, hagg, hag, hsz, hone, Nat.mul_one, Bool.false_eq_true, if_false, List.getElem?_toArray, hget]
          · cases h
        · cases h
      · cases h
    · cases h
  · -- convert
    rename_i s d x ho
    split at h
    · rename_i ts td l hts htd hl
      have hx := ovl_rel hs x
      rw [hl] at hx
      split at h
      · rename_i e hks hkd
        split at h
        · rename_i te hte
          split at h
          · rename_i hke
            split at h
            · rename_i c ys hys
              simp only [Option.some.injEq, Prod.mk.injEq] at h
              obtain ⟨rfl, rfl, rfl⟩ := h
              have hy := rowsOf_rel hs.heap hys (show l.Rel β w (C.N β σ.h) [a.eval x] from hx)
              have hus := (hT _ _ hts).slice hks
              have hue := (hT _ _ hte).int hke
              have hud := (hT _ _ htd).str hkd
              refine After.read hs ⟨.string ⟨(bytesToS ys).toArray⟩, ?_, by simp only [V.Rel, L.Rel, Ty.Rel]⟩
              simp only [execOp, ho]
              refine run_value ?_
              have fin : ∀ b off cap, a.eval x = .slice (some ⟨b, off, none⟩) ys.length cap → (∀ j u, (ys.map (Value.int .u8))[j]? = some u → w.cell? ⟨b, off + j, none⟩ = some u) → (convert s d (a.eval x)).run C.P w = .ok (.string ⟨(bytesToS ys).toArray⟩) w := by
                intro b off cap hv hcells
                rw [hv, run_convert_bytes_arg (P := C.P) w s e hus hue b off ys.length cap ys rfl (fun i hi => hcells i _ (by simp [List.getD_eq_getElem?_getD, hi])) d hud]
                simp [strOfNums, bytesToS]
              rcases hy with ⟨hv, rfl⟩ | ⟨b, off, cap, css, hv, _, hall, hcs⟩ | ⟨a0, cap, hv, rfl⟩
              · rw [hv, run_convert_bytes_nil (P := C.P) w s e hus hue 0 0 d hud]; rfl
              · exact fin b off cap hv (by rw [← cell_u8 hall]; exact hcs)
              · obtain ⟨b, off, wk⟩ := a0
                rw [hv, run_convert_bytes_string w s d e _ 0 cap hus hue hud]
                simp [Conv.bytesToString, loadCells, loadCellsFrom, bytesToS]
                rfl
            · cases h
          · cases h
        · cases h
      · rename_i e hks hkd
        split at h
        · rename_i te s0 hte
          split at h
          · rename_i hke
            simp only [Option.some.injEq, Prod.mk.injEq] at h
            obtain ⟨hroom, rfl, rfl⟩ := h
            have hus := (hT _ _ hts).str hks
            have hue := (hT _ _ hte).int hke
            have hud := (hT _ _ htd).slice hkd
            simp only [V.Rel, L.Rel, Ty.Rel, List.cons.injEq, and_true] at hx
            have hroom := Nat.le_of_ble_eq_true hroom
            unfold room at hroom
            let bs : ByteArray := ⟨s0.toArray⟩
            have hbs : bs.size = s0.length := by simp [bs, ByteArray.size]
            have hge := grownCap_ge w bs.size 0 e
            have hcm := grownCap_le_maxLen w bs.size 0 e (by simp only [maxLen]; omega)
            have hkk : Keep (fun _ => False) w (bytesWorld w e bs) := ⟨by rw [bytesWorld_size]; omega, fun b hb _ => bytesWorld_at_old w e bs b hb⟩
            have hrun : (convert s d (a.eval x)).run C.P w = .ok (.slice (some ⟨w.heap.size, 0, none⟩) bs.size (grownCap w bs.size 0 e)) (bytesWorld w e bs) := by
              rw [hx]
              exact Go.Lib.run_convert_string_bytes w s d e bs hus hud hue
            have hN : ∀ b, C.N β σ.h b → b < w.heap.size := fun b hb => by
              rcases hb with hb | ⟨id, o, ho, _, hbk⟩
              · exact Nat.lt_of_lt_of_le (hs.heap.n0 b hb) hs.heap.size
              · exact (hs.heap.fresh id o b ho hbk).2.1
            have hfr : ∀ (id : Nat) (o : Ob) (b : Nat), σ.h[id]? = some o → (β id).blk = some b → (bytesWorld w e bs).heap[b]? = w.heap[b]? := fun id o b ho hb => hkk.block b (hs.heap.fresh id o b ho hb).2.1 (fun h => h)
            refine ⟨β, bytesWorld w e bs, _, .slice (some ⟨w.heap.size, 0, none⟩) bs.size (grownCap w bs.size 0 e), ?_, .inl rfl, Moves.refl β, hkk.weaken fun _ h => h.elim, ?_, ?_⟩
            · simp only [execOp, ho, Sem.run_bind, hrun, Result.andThen_ok, Sem.run_pure]
            · refine ⟨⟨fun id o ho => (hs.heap.obj id o ho).mono (Moves.refl β) (hkk.weaken fun _ h => h.elim) (fun _ _ h => h) fun b hb => hfr id o b ho hb, hs.heap.dead, hs.heap.apart, fun id o b ho hb => ?_, hs.heap.n0, fun b hb hn => ?_, Nat.le_trans hs.heap.size hkk.size, ?_, ?_, ?_, hs.heap.fixed⟩, hs.defers, hs.size, fun i u hu => (hs.reg i u hu).mono (Moves.refl β) (hkk.weaken fun _ h => h.elim) fun _ _ h => h⟩
              · obtain ⟨k1, k2, k3⟩ := hs.heap.fresh id o b ho hb
                exact ⟨k1, Nat.lt_of_lt_of_le k2 hkk.size, k3⟩
              · rw [hkk.block b (Nat.lt_of_lt_of_le hb hs.heap.size) (fun h => h)]
                exact hs.heap.frame b hb hn
              · exact (show (bytesWorld w e bs).os = w.os from rfl).trans hs.heap.os
              · exact (show (bytesWorld w e bs).tape = w.tape from rfl).trans hs.heap.tape
              · exact (show (bytesWorld w e bs).output = w.output from rfl).trans hs.heap.output
            · simp only [V.Rel, L.Rel, Ty.Rel]
              have hsl : (sToBytes s0).length = bs.size := by simp [sToBytes, hbs]
              refine ⟨_, rfl, .inr (.inl ⟨w.heap.size, 0, grownCap w bs.size 0 e, (sToBytes s0).map fun n => [Value.int .u8 n], by rw [hsl], by rw [bytesWorld_size]; omega, fun hn => ?_, by rw [hsl]; exact hge, hcm, ?_, ?_, ?_⟩)⟩
              · have := hN _ hn; omega
              · exact all2_map (fun n => by simp only) _
              · intro c hc
                obtain ⟨n, _, rfl⟩ := List.mem_map.1 hc
                rfl
              · intro j u hj
                rw [Nat.zero_add]
                have hj2 : j < s0.length := by
                  have : ((sToBytes s0).map fun n => [Value.int .u8 n]).flatten.length = s0.length := by rw [flatten_length (n := 1) _ (fun c hc => by obtain ⟨n, _, rfl⟩ := List.mem_map.1 hc; rfl)]; simp [sToBytes]
                  rw [← this]
                  exact (List.getElem?_eq_some_iff.1 hj).1
                have e1 : ((sToBytes s0).map fun n => [Value.int .u8 n]).flatten = (sToBytes s0).map (Value.int .u8) := by
                  generalize sToBytes s0 = l
                  induction l with
                  | nil => rfl
                  | cons a l ih => simp [ih]
                rw [e1] at hj
                rw [bytesWorld_cell w e bs j (by rw [hbs]; exact hj2)]
                simp only [sToBytes, List.map_map, List.getElem?_map, List.getElem?_eq_getElem hj2, Option.map_some, Option.some.injEq, Function.comp] at hj
                simp [bs, List.getD_eq_getElem?_getD, hj2, ← hj]
          · cases h
        · cases h
      · cases h
    · cases h
  · cases h
where
  LsRel.single' {l : L} {cs : List Value} {N : Nat → Prop} (h : l.Rel β w N cs) : LsRel β w N [l] cs := ⟨cs, [], by simp, h, rfl⟩
  all2_map {γ δ : Type} {R : γ → δ → Prop} {f : γ → δ} (h : ∀ x, R x (f x)) : ∀ l : List γ, All2 R l (l.map f)
    | [] => trivial
    | a :: l => ⟨h a, all2_map h l⟩

theorem stepA_sim {σ : St} {a : Act} {o : Oper} {v : V} {h' : List Ob} (hT : TabOK C.P T) (hs : Sim C β σ a w) (h : stepA T σ o = some (true, v, h')) : After C β σ a w o v h' := by
  unfold stepA at h
  split at h
  · exact stepX_sim hT hs h
  · exact stepOp_sim hT hs h
end
end Go.Dec
