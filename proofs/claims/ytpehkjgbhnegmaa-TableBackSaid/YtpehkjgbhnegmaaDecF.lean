/- The sixth part: that the model's reading operations do what the fifth part says. No statement is proved here. -/
import Derived.Test.YtpehkjgbhnegmaaDecE
namespace Go.Dec
section
variable {P : Program} {β : Nat → Pl} {w : World} {N : Nat → Prop} {T : Tab}

/-! ### Types -/

theorem TIOK.slice {t e : TypeId} {ti : TI} (h : TIOK P t ti) (hk : ti.k = .slice e) : P.underlying t = some (.slice e) := by
  obtain ⟨d, hd, hk'⟩ := h.und
  rw [hk] at hk'
  cases d <;> simp only [TK.of, TK.slice.injEq, reduceCtorEq] at hk'
  subst hk'
  exact hd
theorem TIOK.arr {t e : TypeId} {n : Nat} {ti : TI} (h : TIOK P t ti) (hk : ti.k = .arr n e) : P.underlying t = some (.array n e) := by
  obtain ⟨d, hd, hk'⟩ := h.und
  rw [hk] at hk'
  cases d <;> simp only [TK.of, TK.arr.injEq, reduceCtorEq] at hk'
  obtain ⟨rfl, rfl⟩ := hk'
  exact hd
theorem TIOK.str {t : TypeId} {ti : TI} (h : TIOK P t ti) (hk : ti.k = .str) : P.underlying t = some .string := by
  obtain ⟨d, hd, hk'⟩ := h.und
  rw [hk] at hk'
  cases d <;> simp only [TK.of, reduceCtorEq] at hk'
  exact hd
theorem TIOK.bool {t : TypeId} {ti : TI} (h : TIOK P t ti) (hk : ti.k = .bool) : P.underlying t = some .bool := by
  obtain ⟨d, hd, hk'⟩ := h.und
  rw [hk] at hk'
  cases d <;> simp only [TK.of, reduceCtorEq] at hk'
  exact hd
theorem TIOK.int {t : TypeId} {k : IntKind} {ti : TI} (h : TIOK P t ti) (hk : ti.k = .int k) : P.underlying t = some (.int k) := by
  obtain ⟨d, hd, hk'⟩ := h.und
  rw [hk] at hk'
  cases d <;> simp only [TK.of, TK.int.injEq, reduceCtorEq] at hk'
  subst hk'
  exact hd
theorem TIOK.ptr {t e : TypeId} {ti : TI} (h : TIOK P t ti) (hk : ti.k = .ptr e) : P.underlying t = some (.pointer e) := by
  obtain ⟨d, hd, hk'⟩ := h.und
  rw [hk] at hk'
  cases d <;> simp only [TK.of, TK.ptr.injEq, reduceCtorEq] at hk'
  subst hk'
  exact hd
theorem TIOK.iface {t : TypeId} {b : Bool} {ti : TI} (h : TIOK P t ti) (hk : ti.k = .iface b) : ∃ ms, P.underlying t = some (.interface ms) := by
  obtain ⟨d, hd, hk'⟩ := h.und
  rw [hk] at hk'
  cases d <;> simp only [TK.of, reduceCtorEq] at hk'
  exact ⟨_, hd⟩
theorem TIOK.struct {t : TypeId} {fs : List (Nat × TypeId)} {ti : TI} (h : TIOK P t ti) (hk : ti.k = .struct fs) : ∃ ff : Array Field, P.underlying t = some (.struct ff) ∧ fs = ff.toList.map fun f => (f.offset, f.type) := by
  obtain ⟨d, hd, hk'⟩ := h.und
  rw [hk] at hk'
  cases d <;> simp only [TK.of, TK.struct.injEq, reduceCtorEq] at hk'
  exact ⟨_, hd, hk'.symm⟩

theorem TIOK.sizeOf {t : TypeId} {ti : TI} (h : TIOK P t ti) : (sizeOf t).run P w = .ok ti.size w := by
  obtain ⟨i, z, hi, hs, _⟩ := h.i
  simp [Go.sizeOf, typeInfo, hi, hs]

theorem TIOK.isAgg {t : TypeId} {ti : TI} (h : TIOK P t ti) : (Go.isAgg t).run P w = .ok ti.k.isAgg w := by
  obtain ⟨d, hd, hk⟩ := h.und
  rw [← hk]
  simp only [Go.isAgg, Sem.run_bind, run_underlying hd, Result.andThen_ok]
  cases d <;> rfl

/-! ### Loads -/

theorem run_loadCells_cells {b off : Nat} {cs : List Value} (h : Cells w b off cs) : (loadCells ⟨b, off, none⟩ cs.length).run P w = .ok cs.toArray w :=
  run_loadCells_list (P := P) w ⟨b, off, none⟩ cs fun j v hv => by
    have := h j v hv
    simpa [Addr.add_lit] using this

theorem mkV_load {t : TypeId} {ti : TI} (h : TIOK P t ti) {b off : Nat} {c : List L} {cs : List Value} {v : V} (hc : Cells w b off cs) (hl : LsRel β w N c cs) (hs : cs.length = ti.size) (hv : mkV ti.k.isAgg c = some v) :
    ∃ x, (loadVar t ⟨b, off, none⟩).run P w = .ok x w ∧ v.Rel β w N x := by
  cases ha : ti.k.isAgg with
  | true =>
    rw [ha] at hv
    simp only [mkV, Option.some.injEq] at hv
    subst hv
    refine ⟨.agg cs.toArray, ?_, ⟨cs, rfl, hl⟩⟩
    simp only [loadVar, Sem.run_bind, h.isAgg, Result.andThen_ok, ha, if_true, h.sizeOf]
    rw [← hs, run_loadCells_cells hc]
    rfl
  | false =>
    rw [ha] at hv
    match c, hv with
    | [l], hv =>
      simp only [mkV, Option.some.injEq] at hv
      subst hv
      obtain ⟨c1, c2, e, h1, h2⟩ := hl
      simp only [LsRel] at h2
      subst h2
      rw [List.append_nil] at e
      subst e
      have : ti.size = 1 := by
        obtain ⟨i, z, _, hsz, _, _, _, hz, hag⟩ := h.i
        rw [ha] at hag
        rw [← hsz, ← hz]
        cases z <;> first | rfl | simp [isAggV] at hag
      rw [this] at hs
      obtain ⟨x, rfl⟩ : ∃ x, cs = [x] := by
        match cs, hs with
        | [x], _ => exact ⟨x, rfl⟩
      refine ⟨x, ?_, h1⟩
      have := hc 0 x rfl
      simp only [Nat.add_zero] at this
      simp [loadVar, Sem.run_bind, h.isAgg, Result.andThen_ok, ha, run_load, this]

theorem Cells.of_heap {b : Nat} {cs : Array Value} {e : TypeId} {f : Nat × Nat} (h : w.heap[b]? = some (.cells cs e f)) : Cells w b 0 cs.toList := fun j c hj => by
  simp only [World.cell?, Nat.zero_add, h]
  simpa using hj

theorem Cells.sub {b o off n : Nat} {cs : List Value} (h : Cells w b o cs) : Cells w b (o + off) ((cs.drop off).take n) := (h.drop off).take n

theorem loadAt_run {C : Ctx} {σh : List Ob} {t : TypeId} {l : L} {v : V} {x : Value} (hT : TabOK C.P T) (h : loadAt T σh t l = some (true, v)) (hh : HSim C β σh w) (hl : l.Rel β w (C.N β σh) [x]) :
    ∃ y, (Instr.loadAt t x).run C.P w = .ok y w ∧ v.Rel β w (C.N β σh) y := by
  unfold loadAt at h
  split at h
  · cases h
  · rename_i ti hti
    have hok := hT _ _ hti
    split at h
    · -- ptr
      rename_i id off
      split at h
      · rename_i e ls ho
        split at h
        · rename_i c hc
          cases hv : mkV ti.k.isAgg c with
          | none => rw [hv] at h; cases h
          | some v' =>
            rw [hv] at h
            simp only [Option.map_some, Option.some.injEq, Prod.mk.injEq, true_and] at h
            subst h
            have hob := hh.obj id _ ho
            simp only [Ob.Rel] at hob
            obtain ⟨_, _, b, cs, hb, hls, hheap⟩ := hob
            simp only [L.Rel] at hl
            obtain ⟨_, _, b', hb', hx⟩ := hl
            rw [hb] at hb'
            simp only [Option.some.injEq] at hb'
            subst hb'
            simp only [List.cons.injEq, and_true] at hx
            subst hx
            obtain ⟨hr, hle⟩ := takeLs_rel hc hls
            have hcs := Cells.of_heap hheap
            obtain ⟨y, hy, hv'⟩ := mkV_load hok (b := b) (off := 0 + off) (hcs.sub (n := ti.size)) hr (by simp; omega) hv
            rw [Nat.zero_add] at hy
            exact ⟨y, by simpa [Instr.loadAt, Instr.sureAddr] using hy, hv'⟩
        · cases h
      · cases h
    · -- aptr
      rename_i id off es i sub
      split at h
      · rename_i e ls ho
        split at h
        · rename_i n te xs rest hsp
          split at h
          · rename_i hes
            split at h
            · rename_i c hc
              cases hv : mkV ti.k.isAgg c with
              | none => rw [hv] at h; cases h
              | some v' =>
                rw [hv] at h
                simp only [Option.map_some, Option.some.injEq, Prod.mk.injEq] at h
                obtain ⟨hi, rfl⟩ := h
                have hi := of_decide_eq_true hi
                have hob := hh.obj id _ ho
                simp only [Ob.Rel] at hob
                obtain ⟨_, _, b, cs, hb, hls, hheap⟩ := hob
                simp only [L.Rel] at hl
                obtain ⟨_, _, b', hb', hx⟩ := hl
                rw [hb] at hb'
                simp only [Option.some.injEq] at hb'
                subst hb'
                simp only [List.cons.injEq, and_true] at hx
                subst hx
                obtain ⟨_, hr, _⟩ := splitLs_rel hsp hls
                obtain ⟨c1, c2, e1, h1, h2⟩ := hr
                simp only [L.Rel, Ty.Rel] at h1
                obtain ⟨hn, css, e2, hall⟩ := h1
                have hlen : ∀ c ∈ css, c.length = es := fun c hc => by
                  obtain ⟨y, _, hy⟩ := hall.mem_right c hc
                  rw [hy.length, hes]
                have hi1 : i < css.length := by rw [← hall.length, hn]; exact hi
                have hrel := hall.get i (by rw [hn]; exact hi) hi1
                have hcs := (Cells.of_heap hheap).drop off
                rw [e1, e2] at hcs
                have hcs := hcs.left
                have hcs2 : Cells w b (0 + off + i * es) css[i] := fun j c hj => by
                  have hj' : j < es := by rw [← hlen css[i] (List.getElem_mem hi1)]; exact (List.getElem?_eq_some_iff.1 hj).1
                  have := hcs (i * es + j) c (by rw [flatten_at css hlen i j hi1 hj', hj])
                  rwa [show 0 + off + (i * es + j) = 0 + off + i * es + j by omega] at this
                have hget : xs.getD i te.dflt = xs[i]'(by rw [hn]; exact hi) := by
                  simp only [List.getD_eq_getElem?_getD]; rw [List.getElem?_eq_getElem (by rw [hn]; exact hi)]; rfl
                rw [hget] at hc
                obtain ⟨hr, hle⟩ := takeLs_rel (β := β) hc (explode_rel hrel)
                obtain ⟨y, hy, hv'⟩ := mkV_load hok (b := b) (off := 0 + off + i * es + sub) (hcs2.sub (n := ti.size)) hr (by simp; omega) hv
                rw [Nat.zero_add] at hy
                exact ⟨y, by simpa [Instr.loadAt, Instr.sureAddr] using hy, hv'⟩
            · cases h
          · cases h
        · cases h
      · cases h
    · -- eptr
      rename_i id ver i off
      split at h
      · rename_i e te vv rows wr ho
        split at h
        · rename_i c hc
          cases hv : mkV ti.k.isAgg c with
          | none => rw [hv] at h; cases h
          | some v' =>
            rw [hv] at h
            simp only [Option.map_some, Option.some.injEq, Prod.mk.injEq, Bool.and_eq_true] at h
            obtain ⟨⟨hver, hi⟩, rfl⟩ := h
            have hver := Nat.eq_of_beq_eq_true hver
            have hi := of_decide_eq_true hi
            have hob := hh.obj id _ ho
            simp only [Ob.Rel] at hob
            obtain ⟨_, _, hpv, hpz, hpos, hplen, hob⟩ := hob
            simp only [L.Rel] at hl
            obtain ⟨_, _, _, c0, hc0, _, himp⟩ := hl
            obtain ⟨b', hb', hx⟩ := himp (by rw [hpv, hver])
            simp only [List.cons.injEq, and_true] at hc0
            subst hc0
            rcases hob with ⟨hnb, _⟩ | ⟨b, cur, css, hb, hheap, hall, htake, hcap, _, _⟩
            · rw [hnb] at hb'; cases hb'
            · rw [hb] at hb'
              simp only [Option.some.injEq] at hb'
              subst hb'
              subst hx
              have hlen : ∀ c ∈ css, c.length = te.size := fun c hc => by
                obtain ⟨y, _, hy⟩ := hall.mem_right c hc
                exact hy.length
              have hi1 : i < css.length := by rw [← hall.length]; exact hi
              have hrel := hall.get i hi hi1
              have hcs := (Cells.of_heap hheap).take (rows.length * te.size)
              rw [htake] at hcs
              have hcs2 : Cells w b (0 + i * te.size) css[i] := fun j c hj => by
                have hj' : j < te.size := by rw [← hlen css[i] (List.getElem_mem hi1)]; exact (List.getElem?_eq_some_iff.1 hj).1
                have := hcs (i * te.size + j) c (by rw [flatten_at css hlen i j hi1 hj', hj])
                rwa [show 0 + (i * te.size + j) = 0 + i * te.size + j by omega] at this
              have hget : rows.getD i te.dflt = rows[i] := by
                simp only [List.getD_eq_getElem?_getD]; rw [List.getElem?_eq_getElem hi]; rfl
              rw [hget] at hc
              obtain ⟨hr, hle⟩ := takeLs_rel (β := β) hc (explode_rel hrel)
              obtain ⟨y, hy, hv'⟩ := mkV_load hok (b := b) (off := 0 + i * te.size + off) (hcs2.sub (n := ti.size)) hr (by simp; omega) hv
              rw [Nat.zero_add] at hy
              exact ⟨y, by simpa [Instr.loadAt, Instr.sureAddr, hpz] using hy, hv'⟩
        · cases h
      · cases h
    · -- rptr
      rename_i te y off
      split at h
      · rename_i c hc
        cases hv : mkV ti.k.isAgg c with
        | none => rw [hv] at h; cases h
        | some v' =>
          rw [hv] at h
          simp only [Option.map_some, Option.some.injEq, Prod.mk.injEq, true_and] at h
          subst h
          simp only [L.Rel] at hl
          obtain ⟨c0, hc0, b, o, cs, rfl, hb, hn, hrel, hcs⟩ := hl
          simp only [List.cons.injEq, and_true] at hc0
          subst hc0
          obtain ⟨hr, hle⟩ := takeLs_rel (β := β) hc (explode_rel hrel)
          obtain ⟨y, hy, hv'⟩ := mkV_load hok (b := b) (off := o + off) (hcs.sub (n := ti.size)) hr (by simp; omega) hv
          exact ⟨y, by simpa [Instr.loadAt, Instr.sureAddr] using hy, hv'⟩
      · cases h
    · cases h

end
end Go.Dec
