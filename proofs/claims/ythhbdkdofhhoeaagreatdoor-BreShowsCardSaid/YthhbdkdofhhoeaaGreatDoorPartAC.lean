/- Part of a proof over this seat: a library of my own, and what it says of this seat. No statement is proved here. -/
import Derived.Test.YthhbdkdofhhoeaaGreatDoorPartAB
namespace Go.Dec
section
variable {P : Program} {β : Nat -> Pl} {w : World} {N : Nat -> Prop} {T : Tab}
theorem jE.slice {t e : TypeId} {ti : TI} (h : jE P t ti) (hk : ti.k = .slice e) : P.underlying t = some (.slice e) := by
 obtain ⟨d, hd, hk'⟩ := h.und
 rw [hk] at hk'
 cases d <;> simp only [TK.of, TK.slice.injEq, reduceCtorEq] at hk'
 subst hk'
 exact hd
theorem jE.arr {t e : TypeId} {n : Nat} {ti : TI} (h : jE P t ti) (hk : ti.k = .arr n e) : P.underlying t = some (.array n e) := by
 obtain ⟨d, hd, hk'⟩ := h.und
 rw [hk] at hk'
 cases d <;> simp only [TK.of, TK.arr.injEq, reduceCtorEq] at hk'
 obtain ⟨rfl, rfl⟩ := hk'
 exact hd
theorem jE.str {t : TypeId} {ti : TI} (h : jE P t ti) (hk : ti.k = .str) : P.underlying t = some .string := by
 obtain ⟨d, hd, hk'⟩ := h.und
 rw [hk] at hk'
 cases d <;> simp only [TK.of, reduceCtorEq] at hk'
 exact hd
theorem jE.bool {t : TypeId} {ti : TI} (h : jE P t ti) (hk : ti.k = .bool) : P.underlying t = some .bool := by
 obtain ⟨d, hd, hk'⟩ := h.und
 rw [hk] at hk'
 cases d <;> simp only [TK.of, reduceCtorEq] at hk'
 exact hd
theorem jE.int {t : TypeId} {k : IntKind} {ti : TI} (h : jE P t ti) (hk : ti.k = .int k) : P.underlying t = some (.int k) := by
 obtain ⟨d, hd, hk'⟩ := h.und
 rw [hk] at hk'
 cases d <;> simp only [TK.of, TK.int.injEq, reduceCtorEq] at hk'
 subst hk'
 exact hd
theorem jE.ptr {t e : TypeId} {ti : TI} (h : jE P t ti) (hk : ti.k = .ptr e) : P.underlying t = some (.pointer e) := by
 obtain ⟨d, hd, hk'⟩ := h.und
 rw [hk] at hk'
 cases d <;> simp only [TK.of, TK.ptr.injEq, reduceCtorEq] at hk'
 subst hk'
 exact hd
theorem jE.iface {t : TypeId} {b : Bool} {ti : TI} (h : jE P t ti) (hk : ti.k = .iface b) : ∃ ms, P.underlying t = some (.interface ms) := by
 obtain ⟨d, hd, hk'⟩ := h.und
 rw [hk] at hk'
 cases d <;> simp only [TK.of, reduceCtorEq] at hk'
 exact ⟨_, hd⟩
theorem jE.struct {t : TypeId} {fs : List (Nat × TypeId)} {ti : TI} (h : jE P t ti) (hk : ti.k = .struct fs) : ∃ ff : Array Field, P.underlying t = some (.struct ff) ∧ fs = ff.toList.map fun f => (f.offset, f.type) := by
 obtain ⟨d, hd, hk'⟩ := h.und
 rw [hk] at hk'
 cases d <;> simp only [TK.of, TK.struct.injEq, reduceCtorEq] at hk'
 exact ⟨_, hd, hk'.symm⟩
theorem jE.sizeOf {t : TypeId} {ti : TI} (h : jE P t ti) : (sizeOf t).run P w = .ok ti.size w := by
 obtain ⟨i, z, hi, hs, _⟩ := h.i
 simp [Go.sizeOf, typeInfo, hi, hs]
theorem jE.isAgg {t : TypeId} {ti : TI} (h : jE P t ti) : (Go.isAgg t).run P w = .ok ti.k.isAgg w := by
 obtain ⟨d, hd, hk⟩ := h.und
 rw [<- hk]
 simp only [Go.isAgg, Sem.run_bind, run_underlying hd, Result.andThen_ok]
 cases d <;> rfl
theorem Ic {b off : Nat} {cs : List Value} (h : Cells w b off cs) : (loadCells ⟨b, off, none⟩ cs.length).run P w = .ok cs.toArray w :=
 run_loadCells_list (P := P) w ⟨b, off, none⟩ cs fun j v hv => by
  have := h j v hv
  simpa [Addr.add_lit] using this
theorem Ev {t : TypeId} {ti : TI} (h : jE P t ti) {b off : Nat} {c : List L} {cs : List Value} {v : V} (hc : Cells w b off cs) (hl : aD β w N c cs) (hs : cs.length = ti.size) (hv : mkV ti.k.isAgg c = some v) :
  ∃ x, (loadVar t ⟨b, off, none⟩).run P w = .ok x w ∧ v.Rel β w N x := by
 cases ha : ti.k.isAgg with
 | true =>
  rw [ha] at hv
  simp only [mkV, Option.some.injEq] at hv
  subst hv
  refine ⟨.agg cs.toArray, ?_, ⟨cs, rfl, hl⟩⟩
  simp only [loadVar, Sem.run_bind, h.isAgg, Result.andThen_ok, ha, if_true, h.sizeOf]
  rw [<- hs, Ic hc]
  rfl
 | false =>
  rw [ha] at hv
  match c, hv with
  | [l], hv =>
   simp only [mkV, Option.some.injEq] at hv
   subst hv
   obtain ⟨c1, c2, e, h1, h2⟩ := hl
   simp only [aD] at h2
   subst h2
   rw [List.append_nil] at e
   subst e
   have : ti.size = 1 := by
    obtain ⟨i, z, _, hsz, _, _, _, hz, hag⟩ := h.i
    rw [ha] at hag
    rw [<- hsz, <- hz]
    cases z <;> first | rfl | simp [Qs] at hag
   rw [this] at hs
   obtain ⟨x, rfl⟩ : ∃ x, cs = [x] := by
    match cs, hs with
    | [x], _ => exact ⟨x, rfl⟩
   refine ⟨x, ?_, h1⟩
   have := hc 0 x rfl
   simp only [Nat.add_zero] at this
   simp [loadVar, Sem.run_bind, h.isAgg, Result.andThen_ok, ha, run_load, this]
theorem Cells.of_heap {b : Nat} {cs : Array Value} {e : TypeId} {f : Nat × Nat} (h : w.heap[b]? = some (.cells cs e f)) : Cells w b 0 cs.toList := fun j c hj => by
 simp only [World.cell?, Nat.zero_add, h]
 simpa using hj
theorem Cells.sub {b o off n : Nat} {cs : List Value} (h : Cells w b o cs) : Cells w b (o + off) ((cs.drop off).take n) := (h.drop off).take n
theorem yH {C : Ctx} {σh : List Ob} {t : TypeId} {l : L} {v : V} {x : Value} (hT : bI C.P T) (h : loadAt T σh t l = some (true, v)) (hh : eO C β σh w) (hl : l.Rel β w (C.N β σh) [x]) :
    ∃ y, (Instr.loadAt t x).run C.P w = .ok y w ∧ v.Rel β w (C.N β σh) y := by
  unfold loadAt at h
  split at h
  · cases h
  · rename_i ti hti
    have hok := hT _ _ hti
    split at h
    ·
      rename_i id off
      split at h
      · rename_i e ls ho
        split at h
        · rename_i c hc
          cases hv : mkV ti.k.isAgg c with
          | none => rw [hv] at h; cases h
          | some v' =>
            rw [hv] at h
            simp only [Option.map_some, Option.some.injEq, Prod.mk.injEq, true_and] at h
            subst h
            have hob := hh.obj id _ ho
            simp only [Ob.Rel] at hob
            obtain ⟨_, _, b, cs, hb, hls, hheap⟩ := hob
            simp only [L.Rel] at hl
            obtain ⟨_, _, b', hb', hx⟩ := hl
            rw [hb] at hb'
            simp only [Option.some.injEq] at hb'
            subst hb'
            simp only [List.cons.injEq, and_true] at hx
            subst hx
            obtain ⟨hr, hle⟩ := qG hc hls
            have hcs := Cells.of_heap hheap
            obtain ⟨y, hy, hv'⟩ := Ev hok (b := b) (off := 0 + off) (hcs.sub (n := ti.size)) hr (by simp; omega) hv
            rw [Nat.zero_add] at hy
            exact ⟨y, by simpa [Instr.loadAt, Instr.sureAddr] using hy, hv'⟩
        · cases h
      · cases h
    ·
      rename_i id off es i sub
      split at h
      · rename_i e ls ho
        split at h
        · rename_i n te xs rest hsp
          split at h
          · rename_i hes
            split at h
            · rename_i c hc
              cases hv : mkV ti.k.isAgg c with
              | none => rw [hv] at h; cases h
              | some v' =>
                rw [hv] at h
                simp only [Option.map_some, Option.some.injEq, Prod.mk.injEq] at h
                obtain ⟨hi, rfl⟩ := h
                have hi := of_decide_eq_true hi
                have hob := hh.obj id _ ho
                simp only [Ob.Rel] at hob
                obtain ⟨_, _, b, cs, hb, hls, hheap⟩ := hob
                simp only [L.Rel] at hl
                obtain ⟨_, _, b', hb', hx⟩ := hl
                rw [hb] at hb'
                simp only [Option.some.injEq] at hb'
                subst hb'
                simp only [List.cons.injEq, and_true] at hx
                subst hx
                obtain ⟨_, hr, _⟩ := mJ hsp hls
                obtain ⟨c1, c2, e1, h1, h2⟩ := hr
                simp only [L.Rel, Ty.Rel] at h1
                obtain ⟨hn, css, e2, hall⟩ := h1
                have hlen : ∀ c ∈ css, c.length = es := fun c hc => by
                  obtain ⟨y, _, hy⟩ := hall.mem_right c hc
                  rw [hy.length, hes]
                have hi1 : i < css.length := by rw [<- hall.length, hn]; exact hi
                have hrel := hall.get i (by rw [hn]; exact hi) hi1
                have hcs := (Cells.of_heap hheap).drop off
                rw [e1, e2] at hcs
                have hcs := hcs.left
                have hcs2 : Cells w b (0 + off + i * es) css[i] := fun j c hj => by
                  have hj' : j < es := by rw [<- hlen css[i] (List.getElem_mem hi1)]; exact (List.getElem?_eq_some_iff.1 hj).1
                  have := hcs (i * es + j) c (by rw [qF css hlen i j hi1 hj', hj])
                  rwa [show 0 + off + (i * es + j) = 0 + off + i * es + j by omega] at this
                have hget : xs.getD i te.dflt = xs[i]'(by rw [hn]; exact hi) := by
                  simp only [List.getD_eq_getElem?_getD]; rw [List.getElem?_eq_getElem (by rw [hn]; exact hi)]; rfl
                rw [hget] at hc
                obtain ⟨hr, hle⟩ := qG (β := β) hc (gL hrel)
                obtain ⟨y, hy, hv'⟩ := Ev hok (b := b) (off := 0 + off + i * es + sub) (hcs2.sub (n := ti.size)) hr (by simp; omega) hv
                rw [Nat.zero_add] at hy
                exact ⟨y, by simpa [Instr.loadAt, Instr.sureAddr] using hy, hv'⟩
            · cases h
          · cases h
        · cases h
      · cases h
    ·
      rename_i id ver i off
      split at h
      · rename_i e te vv rows wr ho
        split at h
        · rename_i c hc
          cases hv : mkV ti.k.isAgg c with
          | none => rw [hv] at h; cases h
          | some v' =>
            rw [hv] at h
            simp only [Option.map_some, Option.some.injEq, Prod.mk.injEq, Bool.and_eq_true] at h
            obtain ⟨⟨sU, hi⟩, rfl⟩ := h
            have sU := Nat.eq_of_beq_eq_true sU
            have hi := of_decide_eq_true hi
            have hob := hh.obj id _ ho
            simp only [Ob.Rel] at hob
            obtain ⟨_, _, hpv, hpz, hpos, zEp, hob⟩ := hob
            simp only [L.Rel] at hl
            obtain ⟨_, _, _, c0, hc0, _, himp⟩ := hl
            obtain ⟨b', hb', hx⟩ := himp (by rw [hpv, sU])
            simp only [List.cons.injEq, and_true] at hc0
            subst hc0
            rcases hob with ⟨hnb, _⟩ | ⟨b, cur, css, hb, hheap, hall, htake, hcap, _, _⟩
            · rw [hnb] at hb'; cases hb'
            · rw [hb] at hb'
              simp only [Option.some.injEq] at hb'
              subst hb'
              subst hx
              have hlen : ∀ c ∈ css, c.length = te.size := fun c hc => by
                obtain ⟨y, _, hy⟩ := hall.mem_right c hc
                exact hy.length
              have hi1 : i < css.length := by rw [<- hall.length]; exact hi
              have hrel := hall.get i hi hi1
              have hcs := (Cells.of_heap hheap).take (rows.length * te.size)
              rw [htake] at hcs
              have hcs2 : Cells w b (0 + i * te.size) css[i] := fun j c hj => by
                have hj' : j < te.size := by rw [<- hlen css[i] (List.getElem_mem hi1)]; exact (List.getElem?_eq_some_iff.1 hj).1
                have := hcs (i * te.size + j) c (by rw [qF css hlen i j hi1 hj', hj])
                rwa [show 0 + (i * te.size + j) = 0 + i * te.size + j by omega] at this
              have hget : rows.getD i te.dflt = rows[i] := by
                simp only [List.getD_eq_getElem?_getD]; rw [List.getElem?_eq_getElem hi]; rfl
              rw [hget] at hc
              obtain ⟨hr, hle⟩ := qG (β := β) hc (gL hrel)
              obtain ⟨y, hy, hv'⟩ := Ev hok (b := b) (off := 0 + i * te.size + off) (hcs2.sub (n := ti.size)) hr (by simp; omega) hv
              rw [Nat.zero_add] at hy
              exact ⟨y, by simpa [Instr.loadAt, Instr.sureAddr, hpz] using hy, hv'⟩
        · cases h
      · cases h
    ·
      rename_i te y off
      split at h
      · rename_i c hc
        cases hv : mkV ti.k.isAgg c with
        | none => rw [hv] at h; cases h
        | some v' =>
          rw [hv] at h
          simp only [Option.map_some, Option.some.injEq, Prod.mk.injEq, true_and] at h
          subst h
          simp only [L.Rel] at hl
          obtain ⟨c0, hc0, b, o, cs, rfl, hb, hn, hrel, hcs⟩ := hl
          simp only [List.cons.injEq, and_true] at hc0
          subst hc0
          obtain ⟨hr, hle⟩ := qG (β := β) hc (gL hrel)
          obtain ⟨y, hy, hv'⟩ := Ev hok (b := b) (off := o + off) (hcs.sub (n := ti.size)) hr (by simp; omega) hv
          exact ⟨y, by simpa [Instr.loadAt, Instr.sureAddr] using hy, hv'⟩
      · cases h
    · cases h
end
end Go.Dec
namespace Go.Dec
section
variable {β : Nat -> Pl} {w : World} {T : Tab} {C : Ctx}
theorem addr_add (b o n : Nat) : (⟨b, o, none⟩ : Addr).add n = ⟨b, o + n, none⟩ := by
 simp [Addr.add_lit]
theorem Ot {σh : List Ob} {l : L} {cs : List Value} (hh : eO C β σh w) (hl : l.Rel β w (C.N β σh) cs) : (l.view σh).Rel β w (C.N β σh) cs := by
 cases l with
 | own id ver =>
  simp only [L.view]
  split
  ·rename_i e t v rows wr ho
   have hob := hh.obj _ _ ho
   simp only [Ob.Rel] at hob
   obtain ⟨_, _, _, _, _, hlen, _⟩ := hob
   simp only [L.Rel] at hl ⊢
   rwa [hlen] at hl
  ·simp only [L.Rel] at hl ⊢
   obtain ⟨_, _, _, c, rfl, hc, _⟩ := hl
   exact ⟨rfl, by intro x hx; simp at hx; subst hx; exact hc⟩
 | _ => exact hl
theorem zCl {σh : List Ob} {t : TypeId} {ti : TI} {l l' : L} {x : Value} {k : IntKind} {i : Int} (hT : bI C.P T) (ht : T.get t = some ti) (h : Dr T σh ti.k l i = some (true, l')) (hh : eO C β σh w)
    (hl : l.Rel β w (C.N β σh) [x]) : ∃ y, (Instr.indexAt t x (.int k i)).run C.P w = .ok y w ∧ l'.Rel β w (C.N β σh) [y] := by
  have hok := hT _ _ ht
  unfold Dr at h
  split at h
  ·
    rename_i e te xs hk
    split at h
    · rename_i tie hte
      split at h
      · rename_i hsz
        simp only [Option.some.injEq, Prod.mk.injEq] at h
        obtain ⟨hi, rfl⟩ := h
        obtain ⟨h0, h1, h2⟩ := vL hi
        simp only [L.Rel, Ty.Rel] at hl
        obtain ⟨x', e1, hs⟩ := hl
        simp only [List.cons.injEq, and_true] at e1
        subst e1
        rcases hs with ⟨_, rfl⟩ | ⟨b, off, cap, css, rfl, hb, hn, hlc, hm, hall, hlen, hcs⟩ | ⟨_, _, _, rfl, _⟩
        rotate_left 2
        · simp at h2
        · simp at h2
        · have hi1 : i.toNat < css.length := by rw [<- hall.length]; exact h2
          have hrel := hall.get i.toNat h2 hi1
          have hcs2 : Cells w b (off + i.toNat * te.size) css[i.toNat] := fun j c hj => by
            have hj' : j < te.size := by rw [<- hlen css[i.toNat] (List.getElem_mem hi1)]; exact (List.getElem?_eq_some_iff.1 hj).1
            have := hcs (i.toNat * te.size + j) c (by rw [qF css hlen i.toNat j hi1 hj', hj])
            rwa [show off + (i.toNat * te.size + j) = off + i.toNat * te.size + j by omega] at this
          have hget : bA te.dflt xs i = xs[i.toNat] := by
            simp only [bA, List.getD_eq_getElem?_getD]; rw [List.getElem?_eq_getElem h2]; rfl
          refine ⟨.pointer (some ⟨b, off + i.toNat * te.size, none⟩), ?_, ?_⟩
          · simp only [Instr.indexAt, asIntOf, Sem.run_bind, Sem.run_pure, Result.andThen_ok, run_underlying (hok.slice hk), h0, h1, and_self, if_true, (hT _ _ hte).sizeOf, addr_add, hsz]
          · simp only [L.Rel]
            exact ⟨_, rfl, b, off + i.toNat * te.size, css[i.toNat], rfl, hb, hn, by rw [hget]; exact hrel, hcs2⟩
      · cases h
    · cases h
  ·
    rename_i e id ver off len hk
    split at h
    · rename_i _ _ e' te v rows wr tie ho hte
      split at h
      · rename_i hsz
        simp only [Option.some.injEq, Prod.mk.injEq, Bool.and_eq_true] at h
        obtain ⟨⟨⟨sU, hi⟩, hle⟩, rfl⟩ := h
        have sU := Nat.eq_of_beq_eq_true sU
        have hle := of_decide_eq_true hle
        obtain ⟨h0, h1, h2⟩ := vL hi
        have hob := hh.obj id _ ho
        simp only [Ob.Rel] at hob
        obtain ⟨hlive, kP, hpv, hpz, hpos, zEp, hob⟩ := hob
        simp only [L.Rel] at hl
        obtain ⟨_, _, _, c0, hc0, _, himp⟩ := hl
        have hsl := himp (by rw [hpv, sU])
        simp only [List.cons.injEq, and_true] at hc0
        subst hc0
        unfold dQ at hsl
        rcases hob with ⟨hnb, hr0, _⟩ | ⟨b, cur, css, hb, hheap, hall, htake, hcap, _, _⟩
        · rw [hnb] at hsl
          simp only at hsl
          omega
        · rw [hb] at hsl
          simp only at hsl
          obtain ⟨hoff, o, rfl, ho'⟩ := hsl
          have ho' : o = off * (β id).size := by
            rcases ho' with h | h
            · exact h
            · omega
          refine ⟨.pointer (some ⟨b, o + i.toNat * te.size, none⟩), ?_, ?_⟩
          · simp only [Instr.indexAt, asIntOf, Sem.run_bind, Sem.run_pure, Result.andThen_ok, run_underlying (hok.slice hk), h0, h1, and_self, if_true, (hT _ _ hte).sizeOf, addr_add, hsz]
          · simp only [L.Rel]
            refine ⟨hlive, kP, by omega, _, rfl, rfl, fun _ => ⟨b, hb, ?_⟩⟩
            rw [ho', hpz, Nat.add_mul, Nat.add_zero]
      · cases h
    · cases h
  ·
    rename_i n e id off hk
    split at h
    · rename_i tie hte
      simp only [Option.some.injEq, Prod.mk.injEq] at h
      obtain ⟨hi, rfl⟩ := h
      obtain ⟨h0, h1, h2⟩ := vL hi
      simp only [L.Rel] at hl
      obtain ⟨hlive, kP, b, hb, hx⟩ := hl
      simp only [List.cons.injEq, and_true] at hx
      subst hx
      refine ⟨.pointer (some ⟨b, off + i.toNat * tie.size, none⟩), ?_, ?_⟩
      · simp only [Instr.indexAt, asIntOf, Sem.run_bind, Sem.run_pure, Result.andThen_ok, run_underlying (hok.arr hk), Instr.sureAddr, h0, h1, and_self, if_true, (hT _ _ hte).sizeOf, addr_add]
      · simp only [L.Rel]
        exact ⟨hlive, kP, b, hb, rfl⟩
    · cases h
  ·
    rename_i n e t0 x0 off hk
    split at h
    · rename_i tie hte
      split at h
      · rename_i m te xs htk
        split at h
        · rename_i hc
          obtain ⟨rfl, hsz⟩ := hc
          simp only [Option.some.injEq, Prod.mk.injEq] at h
          obtain ⟨hi, rfl⟩ := h
          obtain ⟨h0, h1, h2⟩ := vL hi
          simp only [L.Rel] at hl
          obtain ⟨c0, hc0, b, o, cs, rfl, hb, hn, hrel, hcs⟩ := hl
          simp only [List.cons.injEq, and_true] at hc0
          subst hc0
          obtain ⟨hr, hle⟩ := qG (β := β) htk (gL hrel)
          obtain ⟨d1, d2, e1, hr1, hr2⟩ := hr
          simp only [aD] at hr2
          subst hr2
          rw [List.append_nil] at e1
          simp only [L.Rel, Ty.Rel] at hr1
          obtain ⟨hxl, css, e2, hall⟩ := hr1
          have hlen : ∀ c ∈ css, c.length = te.size := fun c hc => by
            obtain ⟨y, _, hy⟩ := hall.mem_right c hc
            exact hy.length
          have hi0 : i.toNat < xs.length := by rw [hxl]; exact h2
          have hi1 : i.toNat < css.length := by rw [<- hall.length]; exact hi0
          have zQy := hall.get i.toNat hi0 hi1
          have hcs2 := hcs.sub (off := off) (n := m * tie.size)
          rw [e1, e2] at hcs2
          have zRv : Cells w b (o + off + i.toNat * te.size) css[i.toNat] := fun j c hj => by
            have hj' : j < te.size := by rw [<- hlen css[i.toNat] (List.getElem_mem hi1)]; exact (List.getElem?_eq_some_iff.1 hj).1
            have := hcs2 (i.toNat * te.size + j) c (by rw [qF css hlen i.toNat j hi1 hj', hj])
            rwa [show o + off + (i.toNat * te.size + j) = o + off + i.toNat * te.size + j by omega] at this
          have hget : bA te.dflt xs i = xs[i.toNat] := by
            simp only [bA, List.getD_eq_getElem?_getD]; rw [List.getElem?_eq_getElem hi0]; rfl
          refine ⟨.pointer (some ⟨b, o + off + i.toNat * te.size, none⟩), ?_, ?_⟩
          · simp only [Instr.indexAt, asIntOf, Sem.run_bind, Sem.run_pure, Result.andThen_ok, run_underlying (hok.arr hk), Instr.sureAddr, h0, h1, and_self, if_true, (hT _ _ hte).sizeOf, addr_add, hsz]
          · simp only [L.Rel]
            exact ⟨_, rfl, b, o + off + i.toNat * te.size, css[i.toNat], rfl, hb, hn, by rw [hget]; exact zQy, zRv⟩
        · cases h
      · cases h
    · cases h
  · cases h
theorem Zc {σh : List Ob} {s ft : TypeId} {ti tf : TI} {fs : List (Nat × TypeId)} {f off : Nat} {l l' : L} {x : Value} (hT : bI C.P T) (ht : T.get s = some ti) (hk : ti.k = .struct fs) (hf : fs[f]? = some (off, ft))
  (htf : T.get ft = some tf) (hz : 0 < tf.size) (h : zR σh l off = some (true, l')) (hh : eO C β σh w) (hl : l.Rel β w (C.N β σh) [x]) : ∃ y, (Instr.fieldAt s x f).run C.P w = .ok y w ∧ l'.Rel β w (C.N β σh) [y] := by
 obtain ⟨ff, hu, rfl⟩ := (hT _ _ ht).struct hk
 simp only [List.getElem?_map, Option.map_eq_some_iff, Prod.mk.injEq, Array.getElem?_toList] at hf
 obtain ⟨fld, zRw, rfl, rfl⟩ := hf
 have zOq : ∀ (b o : Nat), (fieldPlace ⟨b, o, none⟩ fld).run C.P w = .ok ⟨b, o + fld.offset, none⟩ w := fun b o => by
  have : ¬ tf.size = 0 := by omega
  simp only [fieldPlace, Sem.run_bind, (hT _ _ htf).sizeOf, Result.andThen_ok, this, if_false, Sem.run_pure, addr_add]
 have hrun : ∀ (b o : Nat), x = .pointer (some ⟨b, o, none⟩) -> (Instr.fieldAt s x f).run C.P w = .ok (.pointer (some ⟨b, o + fld.offset, none⟩)) w := fun b o hx => by
  subst hx
  simp only [Instr.fieldAt, Sem.run_bind, run_underlying hu, Result.andThen_ok, zRw, Instr.sureAddr, Sem.run_pure, zOq]
 cases l <;> simp only [zR, reduceCtorEq, Option.some.injEq, Prod.mk.injEq, true_and] at h
 ·subst h
  simp only [L.Rel] at hl ⊢
  obtain ⟨h1, h2, b, hb, hx⟩ := hl
  simp only [List.cons.injEq, and_true] at hx
  exact ⟨_, hrun b _ hx, h1, h2, b, hb, rfl⟩
 ·subst h
  simp only [L.Rel] at hl ⊢
  obtain ⟨h1, h2, b, hb, hx⟩ := hl
  simp only [List.cons.injEq, and_true] at hx
  exact ⟨_, hrun b _ hx, h1, h2, b, hb, by rw [Nat.add_assoc]⟩
 ·split at h
  ·rename_i e t v rows wr ho
   simp only [Option.some.injEq, Prod.mk.injEq] at h
   obtain ⟨hv, rfl⟩ := h
   have hv := Nat.eq_of_beq_eq_true hv
   have hob := hh.obj _ _ ho
   simp only [Ob.Rel] at hob
   obtain ⟨_, _, hpv, _⟩ := hob
   simp only [L.Rel] at hl ⊢
   obtain ⟨h1, h2, h3, c0, hc0, h4, himp⟩ := hl
   obtain ⟨b, hb, hx⟩ := himp (by rw [hpv, hv])
   simp only [List.cons.injEq, and_true] at hc0
   rw [hx] at hc0
   exact ⟨_, hrun b _ hc0, h1, h2, h3, _, rfl, rfl, fun _ => ⟨b, hb, by rw [Nat.add_assoc]⟩⟩
  ·cases h
 ·subst h
  simp only [L.Rel] at hl ⊢
  obtain ⟨c0, hc0, b, o, cs, hx, hb, hn, hrel, hcs⟩ := hl
  simp only [List.cons.injEq, and_true] at hc0
  subst hc0
  exact ⟨_, hrun b _ hx, _, rfl, b, o, cs, by rw [Nat.add_assoc], hb, hn, hrel, hcs⟩
theorem zNf {σh : List Ob} {t : TypeId} {ti : TI} {v v' : V} {x : Value} {k : IntKind} {i : Int} (hT : bI C.P T) (ht : T.get t = some ti) (hk : ti.k = .str) (h : idx v i = some (true, v'))
  (hl : v.Rel β w (C.N β σh) x) : ∃ y, (Instr.index t x (.int k i)).run C.P w = .ok y w ∧ v'.Rel β w (C.N β σh) y := by
 unfold idx at h
 split at h
 ·rename_i s
  simp only [Option.some.injEq, Prod.mk.injEq] at h
  obtain ⟨hi, rfl⟩ := h
  obtain ⟨h0, h1, h2⟩ := vL hi
  simp only [V.Rel, L.Rel, Ty.Rel, List.cons.injEq, and_true] at hl
  subst hl
  have hget : bA 0 s i = s[i.toNat] := by
   simp only [bA, List.getD_eq_getElem?_getD]; rw [List.getElem?_eq_getElem h2]; rfl
  have hb : (ByteArray.mk s.toArray)[i.toNat]? = some s[i.toNat] := by
   have hsz : i.toNat < (ByteArray.mk s.toArray).size := by rw [size_mk]; exact h2
   rw [getElem?_pos (ByteArray.mk s.toArray) i.toNat hsz]
   rfl
  refine ⟨.int .u8 s[i.toNat].toNat, ?_, ?_⟩
  ·simp only [Instr.index, asIntOf, Sem.run_bind, Sem.run_pure, Result.andThen_ok, run_underlying ((hT _ _ ht).str hk), h0, if_true, hb]
  ·simp only [V.Rel, L.Rel, Ty.Rel, hget]
 ·cases h
theorem qH {isSlice : Bool} {n cap : Nat} {lo hi : Option Int} {kl kh : IntKind} (hc : n <= cap) (h : (bounds n lo hi).1 = true) :
  (Instr.sliceBounds isSlice n cap (lo.map (.int kl)) (hi.map (.int kh)) none).run C.P w = .ok ((bounds n lo hi).2.1, (bounds n lo hi).2.2, cap) w ∧ (bounds n lo hi).2.1 <= (bounds n lo hi).2.2 ∧ (bounds n lo hi).2.2 <= n := by
 cases lo with
 | none =>
  cases hi with
  | none => simp [Instr.sliceBounds, bounds]
  | some y =>
   simp only [bounds, Bool.and_eq_true, decide_eq_true_eq] at h
   have hy : y <= (cap : Int) := by omega
   simp only [Instr.sliceBounds, Option.map_none, Option.map_some, Sem.run_bind, Sem.run_pure, Result.andThen_ok, Instr.sliceBound, asIntOf, h.1, hy, and_self, if_true, bounds]
   exact ⟨trivial, by omega, by omega⟩
 | some x =>
  cases hi with
  | none =>
   simp only [bounds, Bool.and_eq_true, decide_eq_true_eq] at h
   simp only [Instr.sliceBounds, Option.map_none, Option.map_some, Sem.run_bind, Sem.run_pure, Result.andThen_ok, Instr.sliceBound, asIntOf, h.1, h.2, and_self, if_true, bounds]
   exact ⟨trivial, by omega, by omega⟩
  | some y =>
   simp only [bounds, Bool.and_eq_true, decide_eq_true_eq] at h
   have hy : y <= (cap : Int) := by omega
   have hx : x <= ((y.toNat : Nat) : Int) := by omega
   simp only [Instr.sliceBounds, Option.map_some, Sem.run_bind, Sem.run_pure, Result.andThen_ok, Instr.sliceBound, asIntOf, h.1.1, hy, h.2.1, hx, and_self, if_true, bounds]
   exact ⟨trivial, by omega, by omega⟩
theorem Qt {α : Type} (xs : List α) (lo hi : Option Int) (h : (bounds xs.length lo hi).1 = true) : cut xs lo hi = (xs.take (bounds xs.length lo hi).2.2).drop (bounds xs.length lo hi).2.1 := by
 cases lo <;> cases hi <;> simp [cut, bounds]
theorem extract_mk (s : List UInt8) (a b : Nat) : (ByteArray.mk s.toArray).extract a b = ByteArray.mk ((s.take b).drop a).toArray := by
 apply ByteArray.ext
 rw [ByteArray.data_extract]
 simp [List.extract_eq_take_drop, List.drop_take]
theorem zHo {σh : List Ob} {t : TypeId} {ti : TI} {l l' : L} {x : Value} {lo hi : Option Int} {kl kh : IntKind} (hT : bI C.P T) (ht : T.get t = some ti) (h : slice ti.k l lo hi σh = some (true, l')) (hh : eO C β σh w)
  (hl : l.Rel β w (C.N β σh) [x]) (hte : ∀ e, ti.k = .slice e -> ∃ te, T.get e = some te ∧ (∀ a xs, l = .val (.slice a) xs -> a.size = te.size) ∧ (∀ id ver off len, l = .sl id ver off len -> te.size = (β id).size)) :
  ∃ y, (Instr.sliceAt t x (lo.map (.int kl)) (hi.map (.int kh)) none).run C.P w = .ok y w ∧ l'.Rel β w (C.N β σh) [y] := by
 have hok := hT _ _ ht
 unfold slice at h
 split at h
 ·rename_i s hk
  simp only [Option.some.injEq, Prod.mk.injEq] at h
  obtain ⟨hb, rfl⟩ := h
  simp only [L.Rel, Ty.Rel, List.cons.injEq, and_true] at hl
  subst hl
  have hu := hok.str hk
  obtain ⟨hr, _, _⟩ := qH (C := C) (w := w) (isSlice := false) (kl := kl) (kh := kh) (Nat.le_refl _) hb
  refine ⟨.string ⟨(cut s lo hi).toArray⟩, ?_, by simp only [L.Rel, Ty.Rel]⟩
  simp only [Instr.sliceAt, Instr.slice, Sem.run_bind, run_underlying hu, Result.andThen_ok, Option.isSome_none, Bool.false_eq_true, if_false, size_mk, hr, Sem.run_pure, extract_mk, Qt s lo hi hb]
 ·rename_i e te xs hk
  simp only [Option.some.injEq, Prod.mk.injEq] at h
  obtain ⟨hb, rfl⟩ := h
  obtain ⟨tie, htie, hsz, _⟩ := hte e hk
  have hsz := hsz te xs rfl
  simp only [L.Rel, Ty.Rel] at hl
  obtain ⟨x', e1, hs⟩ := hl
  simp only [List.cons.injEq, and_true] at e1
  subst e1
  have hu := hok.slice hk
  rcases hs with ⟨rfl, rfl⟩ | ⟨b, off, cap, css, rfl, hbl, hn, hlc, hm, hall, hlen, hcs⟩ | ⟨ad, cap, rfl, rfl, hcm⟩
  rotate_left 2
  ·obtain ⟨hr, h3, h4⟩ := qH (C := C) (w := w) (isSlice := true) (kl := kl) (kh := kh) (Nat.zero_le cap) hb
   have hcut : cut ([] : List te.den) lo hi = [] := by rw [Qt _ _ _ hb]; simp
   have h5 : (bounds 0 lo hi).2.2 = 0 := by simpa using h4
   have h6 : (bounds 0 lo hi).2.1 = 0 := by omega
   refine ⟨.slice (some (if cap = 0 then ad else ad.add (0 * tie.size))) 0 cap, ?_, by simp only [L.Rel, Ty.Rel, hcut]; exact ⟨_, rfl, .inr (.inr ⟨_, _, rfl, rfl, hcm⟩)⟩⟩
   simp only [Instr.sliceAt, Instr.slice, Sem.run_bind, run_underlying hu, Result.andThen_ok, hr, (hT _ _ htie).sizeOf, Sem.run_pure, h5, h6]
   split <;> rfl
  ·obtain ⟨hr, h3, h4⟩ := qH (C := C) (w := w) (isSlice := true) (kl := kl) (kh := kh) (Nat.le_refl 0) hb
   have hcut : cut ([] : List te.den) lo hi = [] := by rw [Qt _ _ _ hb]; simp
   have h5 : (bounds 0 lo hi).2.2 = 0 := by simpa using h4
   have h6 : (bounds 0 lo hi).2.1 = 0 := by omega
   refine ⟨.slice none 0 0, ?_, by simp only [L.Rel, Ty.Rel, hcut]; exact ⟨_, rfl, .inl ⟨rfl, rfl⟩⟩⟩
   simp only [Instr.sliceAt, Instr.slice, Sem.run_bind, run_underlying hu, Result.andThen_ok, hr, (hT _ _ htie).sizeOf, Sem.run_pure, h5, h6]
   rfl
  ·obtain ⟨hr, h3, h4⟩ := qH (C := C) (w := w) (isSlice := true) (kl := kl) (kh := kh) hlc hb
   generalize hlo : (bounds xs.length lo hi).2.1 = a at *
   generalize hhi : (bounds xs.length lo hi).2.2 = c at *
   have hcut : cut xs lo hi = (xs.take c).drop a := by rw [Qt _ _ _ hb, hlo, hhi]
   have zMl : ((xs.take c).drop a).length = c - a := by simp; omega
   refine ⟨.slice (some (if cap = a then ⟨b, off, none⟩ else (⟨b, off, none⟩ : Addr).add (a * tie.size))) (c - a) (cap - a), ?_, ?_⟩
   ·simp only [Instr.sliceAt, Instr.slice, Sem.run_bind, run_underlying hu, Result.andThen_ok, hr, (hT _ _ htie).sizeOf, Sem.run_pure]
    split <;> rfl
   ·simp only [L.Rel, Ty.Rel]
    refine ⟨_, rfl, .inr (.inl ⟨b, if cap = a then off else off + a * tie.size, cap - a, (css.take c).drop a, ?_, hbl, hn, ?_, by omega, ?_, ?_, ?_⟩)⟩
    ·rw [hcut, zMl]; split <;> simp [addr_add]
    ·rw [hcut, zMl]; omega
    ·rw [hcut]; exact (hall.take c).drop a
    ·intro d hd; exact hlen d (List.mem_of_mem_take (List.mem_of_mem_drop hd))
    ·have Yh := hall.length
     split
     ·rename_i hca
      have : (css.take c).drop a = [] := by apply List.drop_eq_nil_of_le; simp; omega
      rw [this]
      exact Cells.nil
     ·have h1 : ((css.take c).drop a).flatten = (css.flatten.take (c * te.size)).drop (a * te.size) := by
       rw [kM css hlen, gN (css.take c) fun d hd => hlen d (List.mem_of_mem_take hd)]
      rw [h1, <- hsz]
      exact (hcs.take _).drop _
 ·rename_i e id ver off len hk
  split at h
  ·rename_i e' te v rows wr ho
   simp only [Option.some.injEq, Prod.mk.injEq, Bool.and_eq_true] at h
   obtain ⟨⟨sU, hb⟩, rfl⟩ := h
   have sU := Nat.eq_of_beq_eq_true sU
   obtain ⟨tie, htie, _, hsz⟩ := hte e hk
   have hsz := hsz id ver off len rfl
   have hob := hh.obj id _ ho
   simp only [Ob.Rel] at hob
   obtain ⟨hlive, kP, hpv, hpz, hpos, zEp, hob⟩ := hob
   simp only [L.Rel] at hl
   obtain ⟨_, _, zOr, c0, hc0, _, himp⟩ := hl
   have hsl := himp (by rw [hpv, sU])
   simp only [List.cons.injEq, and_true] at hc0
   subst hc0
   have hu := hok.slice hk
   unfold dQ at hsl
   split at hsl
   ·rename_i hnb
    obtain ⟨rfl, rfl, rfl⟩ := hsl
    obtain ⟨hr, h3, h4⟩ := qH (C := C) (w := w) (isSlice := true) (kl := kl) (kh := kh) (Nat.le_refl 0) hb
    have h5 : (bounds 0 lo hi).2.2 = 0 := by simpa using h4
    have h6 : (bounds 0 lo hi).2.1 = 0 := by omega
    refine ⟨.slice none 0 0, ?_, ?_⟩
    ·simp only [Instr.sliceAt, Instr.slice, Sem.run_bind, run_underlying hu, Result.andThen_ok, hr, (hT _ _ htie).sizeOf, Sem.run_pure, h5, h6]
     rfl
    ·simp only [L.Rel]
     refine ⟨hlive, kP, zOr, _, rfl, rfl, fun _ => ?_⟩
     unfold dQ
     rw [hnb]
     simp only [h5, h6]
     exact ⟨trivial, trivial, trivial⟩
   ·rename_i b hbb
    obtain ⟨hoff, o, rfl, ho'⟩ := hsl
    obtain ⟨hr, h3, h4⟩ := qH (C := C) (w := w) (isSlice := true) (kl := kl) (kh := kh) (n := len) (cap := (β id).cap - off) (by omega) hb
    generalize hlo : (bounds len lo hi).2.1 = a at *
    generalize hhi : (bounds len lo hi).2.2 = c at *
    refine ⟨.slice (some (if (β id).cap - off = a then ⟨b, o, none⟩ else (⟨b, o, none⟩ : Addr).add (a * tie.size))) (c - a) ((β id).cap - off - a), ?_, ?_⟩
    ·simp only [Instr.sliceAt, Instr.slice, Sem.run_bind, run_underlying hu, Result.andThen_ok, hr, (hT _ _ htie).sizeOf, Sem.run_pure]
     split <;> rfl
    ·simp only [L.Rel]
     refine ⟨hlive, kP, zOr, _, rfl, rfl, fun _ => ?_⟩
     unfold dQ
     rw [hbb]
     simp only
     refine ⟨by omega, if (β id).cap - off = a then o else o + a * tie.size, ?_, ?_⟩
     ·rw [show (β id).cap - off - a = (β id).cap - (off + a) by omega]
      split <;> simp [addr_add]
     ·split
      ·by_cases h0 : off + a = 0
       ·left
        have h1 : off = 0 := by omega
        rcases ho' with h | h
        ·rw [h, h0, h1]
        ·omega
       ·right; omega
      ·rcases ho' with h | h
       ·left; rw [h, hsz, Nat.add_mul]
       ·right; omega
  ·cases h
 ·cases h
end
end Go.Dec
