/- Part of a proof over this seat: a library of my own, and what it says of this seat. No statement is proved here. -/
import Derived.Test.YtdgneppobefaoaaGreatDoorPartAA
namespace Go.Dec
section
variable {P:Program} {β:Nat->Pl} {w:World} {N:Nat->Nat->Prop} {T:Tab}
theorem iW.slice {t e:TypeId} {ti:TI} (h:iW P t ti) (hk:ti.k=.slice e):P.underlying t=some (.slice e):=by
 obtain ⟨d,hd,hk'⟩:=h.und
 rw [hk] at hk'
 cases d <;> simp only [TK.of,TK.slice.injEq,reduceCtorEq] at hk'
 subst hk'
 exact hd
theorem iW.arr {t e:TypeId} {n:Nat} {ti:TI} (h:iW P t ti) (hk:ti.k=.arr n e):P.underlying t=some (.array n e):=by
 obtain ⟨d,hd,hk'⟩:=h.und
 rw [hk] at hk'
 cases d <;> simp only [TK.of,TK.arr.injEq,reduceCtorEq] at hk'
 obtain ⟨rfl,rfl⟩:=hk'
 exact hd
theorem iW.str {t:TypeId} {ti:TI} (h:iW P t ti) (hk:ti.k=.str):P.underlying t=some .string:=by
 obtain ⟨d,hd,hk'⟩:=h.und
 rw [hk] at hk'
 cases d <;> simp only [TK.of,reduceCtorEq] at hk'
 exact hd
theorem iW.bool {t:TypeId} {ti:TI} (h:iW P t ti) (hk:ti.k=.bool):P.underlying t=some .bool:=by
 obtain ⟨d,hd,hk'⟩:=h.und
 rw [hk] at hk'
 cases d <;> simp only [TK.of,reduceCtorEq] at hk'
 exact hd
theorem iW.int {t:TypeId} {k:IntKind} {ti:TI} (h:iW P t ti) (hk:ti.k=.int k):P.underlying t=some (.int k):=by
 obtain ⟨d,hd,hk'⟩:=h.und
 rw [hk] at hk'
 cases d <;> simp only [TK.of,TK.int.injEq,reduceCtorEq] at hk'
 subst hk'
 exact hd
theorem iW.ptr {t e:TypeId} {ti:TI} (h:iW P t ti) (hk:ti.k=.ptr e):P.underlying t=some (.pointer e):=by
 obtain ⟨d,hd,hk'⟩:=h.und
 rw [hk] at hk'
 cases d <;> simp only [TK.of,TK.ptr.injEq,reduceCtorEq] at hk'
 subst hk'
 exact hd
theorem iW.iface {t:TypeId} {b:Bool} {ti:TI} (h:iW P t ti) (hk:ti.k=.iface b):∃ ms,P.underlying t=some (.interface ms):=by
 obtain ⟨d,hd,hk'⟩:=h.und
 rw [hk] at hk'
 cases d <;> simp only [TK.of,reduceCtorEq] at hk'
 exact ⟨_,hd⟩
theorem iW.struct {t:TypeId} {fs:List (Nat × TypeId)} {ti:TI} (h:iW P t ti) (hk:ti.k=.struct fs):∃ ff:Array Field,P.underlying t=some (.struct ff)∧fs=ff.toList.map fun f=>(f.offset,f.type):=by
 obtain ⟨d,hd,hk'⟩:=h.und
 rw [hk] at hk'
 cases d <;> simp only [TK.of,TK.struct.injEq,reduceCtorEq] at hk'
 exact ⟨_,hd,hk'.symm⟩
theorem iW.sizeOf {t:TypeId} {ti:TI} (h:iW P t ti):(sizeOf t).run P w=.ok ti.size w:=by
 obtain ⟨i,z,hi,hs,_⟩:=h.i
 simp [Go.sizeOf,typeInfo,hi,hs]
theorem iW.isAgg {t:TypeId} {ti:TI} (h:iW P t ti):(Go.isAgg t).run P w=.ok ti.k.isAgg w:=by
 obtain ⟨d,hd,hk⟩:=h.und
 rw [<- hk]
 simp only [Go.isAgg,Sem.run_bind,run_underlying hd,Result.andThen_ok]
 cases d <;> rfl
theorem Ig {b off:Nat} {cs:List Value} (h:Cells w b off cs):(loadCells ⟨b,off,none⟩ cs.length).run P w=.ok cs.toArray w :=
 run_loadCells_list (P:=P) w ⟨b,off,none⟩ cs fun j v hv=>by
  have:=h j v hv
  simpa [Addr.add_lit] using this
theorem Ec {t:TypeId} {ti:TI} (h:iW P t ti) {b off:Nat} {c:List L} {cs:List Value} {v:V} (hc:Cells w b off cs) (hl:aL β w N c cs) (hs:cs.length=ti.size) (hv:mkV ti.k.isAgg c=some v) :
  ∃ x,(loadVar t ⟨b,off,none⟩).run P w=.ok x w∧v.Rel β w N x:=by
 cases ha:ti.k.isAgg with
 | true =>
  rw [ha] at hv
  simp only [mkV,aA] at hv
  subst hv
  refine ⟨.agg cs.toArray,?_,⟨cs,rfl,hl⟩⟩
  simp only [loadVar,Sem.run_bind,h.isAgg,Result.andThen_ok,ha,if_true,h.sizeOf]
  rw [<- hs,Ig hc]
  rfl
 | false =>
  rw [ha] at hv
  match c,hv with
  | [l],hv =>
   simp only [mkV,aA] at hv
   subst hv
   obtain ⟨c1,c2,e,h1,h2⟩:=hl
   simp only [aL] at h2
   subst h2
   rw [List.append_nil] at e
   subst e
   have:ti.size=1:=by
    obtain ⟨i,z,_,hsz,_,_,_,hz,hag⟩:=h.i
    rw [ha] at hag
    rw [<- hsz,<- hz]
    cases z <;> first | rfl | simp [lJ] at hag
   rw [this] at hs
   obtain ⟨x,rfl⟩:∃ x,cs=[x]:=by
    match cs,hs with
    | [x],_=>exact ⟨x,rfl⟩
   refine ⟨x,?_,h1⟩
   have:=hc 0 x rfl
   simp only [Nat.add_zero] at this
   simp [loadVar,Sem.run_bind,h.isAgg,Result.andThen_ok,ha,run_load,this]
theorem Cells.of_heap {b:Nat} {cs:Array Value} {e:TypeId} {f:Nat × Nat} (h:w.heap[b]?=some (.cells cs e f)):Cells w b 0 cs.toList:=fun j c hj=>by
 simp only [World.cell?,Nat.zero_add,h]
 simpa using hj
theorem Cells.sub {b o off n:Nat} {cs:List Value} (h:Cells w b o cs):Cells w b (o+off) ((cs.drop off).take n):=(h.drop off).take n
theorem xY {C : Ctx} {σh : List Ob} {t : TypeId} {l : L} {v : V} {x : Value} (hT : aU C.P T) (h : loadAt T σh t l = some (true, v)) (hh : dB C β σh w) (hl : l.Rel β w (C.N β σh) [x]) :
    ∃ y, (Instr.loadAt t x).run C.P w = .ok y w ∧ v.Rel β w (C.N β σh) y := by
  unfold loadAt at h
  split at h
  · cases h
  · rename_i ti hti
    have hok := hT _ _ hti
    split at h
    ·
      rename_i id off
      split at h
      · rename_i e ls ho
        split at h
        · rename_i c hc
          cases hv : mkV ti.k.isAgg c with
          | none => rw [hv] at h; cases h
          | some v' =>
            rw [hv] at h
            simp only [Option.map_some, aA, aB, true_and] at h
            subst h
            have hob := hh.obj id _ ho
            simp only [Ob.Rel] at hob
            obtain ⟨_, _, b, cs, hb, hls, hheap⟩ := hob
            simp only [L.Rel] at hl
            obtain ⟨_, _, b', hb', hx⟩ := hl
            rw [hb] at hb'
            simp only [aA] at hb'
            subst hb'
            simp only [aK, and_true] at hx
            subst hx
            obtain ⟨hr, hle⟩ := qX hc hls
            have hcs := Cells.of_heap hheap
            obtain ⟨y, hy, hv'⟩ := Ec hok (b := b) (off := 0 + off) (hcs.sub (n := ti.size)) hr (by simp; omega) hv
            rw [Nat.zero_add] at hy
            exact ⟨y, by simpa [Instr.loadAt, Instr.sureAddr] using hy, hv'⟩
        · cases h
      · cases h
    ·
      rename_i id off es i sub
      split at h
      · rename_i e ls ho
        split at h
        · rename_i n te xs rest hsp
          split at h
          · rename_i hes
            split at h
            · rename_i c hc
              cases hv : mkV ti.k.isAgg c with
              | none => rw [hv] at h; cases h
              | some v' =>
                rw [hv] at h
                simp only [Option.map_some, aA, aB] at h
                obtain ⟨hi, rfl⟩ := h
                have hi := of_decide_eq_true hi
                have hob := hh.obj id _ ho
                simp only [Ob.Rel] at hob
                obtain ⟨_, _, b, cs, hb, hls, hheap⟩ := hob
                simp only [L.Rel] at hl
                obtain ⟨_, _, b', hb', hx⟩ := hl
                rw [hb] at hb'
                simp only [aA] at hb'
                subst hb'
                simp only [aK, and_true] at hx
                subst hx
                obtain ⟨_, hr, _⟩ := lX hsp hls
                obtain ⟨c1, c2, e1, h1, h2⟩ := hr
                simp only [L.Rel, Ty.Rel] at h1
                obtain ⟨hn, css, e2, hall⟩ := h1
                have hlen : ∀ c ∈ css, c.length = es := fun c hc => by
                  obtain ⟨y, _, hy⟩ := hall.mem_right c hc
                  rw [hy.length, hes]
                have hi1 : i < css.length := by rw [<- hall.length, hn]; exact hi
                have hrel := hall.get i (by rw [hn]; exact hi) hi1
                have hcs := (Cells.of_heap hheap).drop off
                rw [e1, e2] at hcs
                have hcs := hcs.left
                have hcs2 : Cells w b (0 + off + i * es) css[i] := fun j c hj => by
                  have hj' : j < es := by rw [<- hlen css[i] (List.getElem_mem hi1)]; exact (aS.1 hj).1
                  have := hcs (i * es + j) c (by rw [qR css hlen i j hi1 hj', hj])
                  rwa [show 0 + off + (i * es + j) = 0 + off + i * es + j by omega] at this
                have hget : xs.getD i te.dflt = xs[i]'(by rw [hn]; exact hi) := by
                  simp only [List.getD_eq_getElem?_getD]; rw [List.getElem?_eq_getElem (by rw [hn]; exact hi)]; rfl
                rw [hget] at hc
                obtain ⟨hr, hle⟩ := qX (β := β) hc (fE hrel)
                obtain ⟨y, hy, hv'⟩ := Ec hok (b := b) (off := 0 + off + i * es + sub) (hcs2.sub (n := ti.size)) hr (by simp; omega) hv
                rw [Nat.zero_add] at hy
                exact ⟨y, by simpa [Instr.loadAt, Instr.sureAddr] using hy, hv'⟩
            · cases h
          · cases h
        · cases h
      · cases h
    ·
      rename_i id ver i off
      split at h
      · rename_i e te vv rows wr ho
        split at h
        · rename_i c hc
          cases hv : mkV ti.k.isAgg c with
          | none => rw [hv] at h; cases h
          | some v' =>
            rw [hv] at h
            simp only [Option.map_some, aA, aB, aF] at h
            obtain ⟨⟨sV, hi⟩, rfl⟩ := h
            have sV := aG sV
            have hi := of_decide_eq_true hi
            have hob := hh.obj id _ ho
            simp only [Ob.Rel] at hob
            obtain ⟨_, _, hpv, hpz, hpos, zGu, hob⟩ := hob
            simp only [L.Rel] at hl
            obtain ⟨_, _, _, c0, hc0, _, himp⟩ := hl
            obtain ⟨b', hb', hx⟩ := himp (by rw [hpv, sV])
            simp only [aK, and_true] at hc0
            subst hc0
            rcases hob with ⟨hnb, _⟩ | ⟨b, cur, css, hb, hheap, hall, htake, hcap, _, _⟩
            · rw [hnb] at hb'; cases hb'
            · rw [hb] at hb'
              simp only [aA] at hb'
              subst hb'
              subst hx
              have hlen : ∀ c ∈ css, c.length = te.size := fun c hc => by
                obtain ⟨y, _, hy⟩ := hall.mem_right c hc
                exact hy.length
              have hi1 : i < css.length := by rw [<- hall.length]; exact hi
              have hrel := hall.get i hi hi1
              have hcs := (Cells.of_heap hheap).take (rows.length * te.size)
              rw [htake] at hcs
              have hcs2 : Cells w b (0 + i * te.size) css[i] := fun j c hj => by
                have hj' : j < te.size := by rw [<- hlen css[i] (List.getElem_mem hi1)]; exact (aS.1 hj).1
                have := hcs (i * te.size + j) c (by rw [qR css hlen i j hi1 hj', hj])
                rwa [show 0 + (i * te.size + j) = 0 + i * te.size + j by omega] at this
              have hget : rows.getD i te.dflt = rows[i] := by
                simp only [List.getD_eq_getElem?_getD]; rw [List.getElem?_eq_getElem hi]; rfl
              rw [hget] at hc
              obtain ⟨hr, hle⟩ := qX (β := β) hc (fE hrel)
              obtain ⟨y, hy, hv'⟩ := Ec hok (b := b) (off := 0 + i * te.size + off) (hcs2.sub (n := ti.size)) hr (by simp; omega) hv
              rw [Nat.zero_add] at hy
              exact ⟨y, by simpa [Instr.loadAt, Instr.sureAddr, hpz] using hy, hv'⟩
        · cases h
      · cases h
    ·
      rename_i te y off
      split at h
      · rename_i c hc
        cases hv : mkV ti.k.isAgg c with
        | none => rw [hv] at h; cases h
        | some v' =>
          rw [hv] at h
          simp only [Option.map_some, aA, aB, true_and] at h
          subst h
          simp only [L.Rel] at hl
          obtain ⟨c0, hc0, b, o, cs, rfl, hb, hn, hrel, hcs⟩ := hl
          simp only [aK, and_true] at hc0
          subst hc0
          obtain ⟨hr, hle⟩ := qX (β := β) hc (fE hrel)
          obtain ⟨y, hy, hv'⟩ := Ec hok (b := b) (off := o + off) (hcs.sub (n := ti.size)) hr (by simp; omega) hv
          exact ⟨y, by simpa [Instr.loadAt, Instr.sureAddr] using hy, hv'⟩
      · cases h
    · cases h
end
end Go.Dec
namespace Go.Dec
section
variable {β:Nat->Pl} {w:World} {T:Tab} {C:Ctx}
theorem addr_add (b o n:Nat):(⟨b,o,none⟩:Addr).add n=⟨b,o+n,none⟩:=by
 simp [Addr.add_lit]
theorem Nv {σh:List Ob} {l:L} {cs:List Value} (hh:dB C β σh w) (hl:l.Rel β w (C.N β σh) cs):(l.view σh).Rel β w (C.N β σh) cs:=by
 cases l with
 | own id ver =>
  simp only [L.view]
  split
  ·rename_i e t v rows wr ho
   have hob:=hh.obj _ _ ho
   simp only [Ob.Rel] at hob
   obtain ⟨_,_,_,_,_,hlen,_⟩:=hob
   simp only [L.Rel] at hl ⊢
   rwa [hlen] at hl
  ·simp only [L.Rel] at hl ⊢
   obtain ⟨_,_,_,c,rfl,hc,_⟩:=hl
   exact ⟨rfl,by intro x hx; simp at hx; subst hx; exact hc⟩
 | _=>exact hl
theorem zDu {σh : List Ob} {t : TypeId} {ti : TI} {l l' : L} {x : Value} {k : IntKind} {i : Int} (hT : aU C.P T) (ht : T.get t = some ti) (h : oP T σh ti.k l i = some (true, l')) (hh : dB C β σh w)
    (hl : l.Rel β w (C.N β σh) [x]) : ∃ y, (Instr.indexAt t x (.int k i)).run C.P w = .ok y w ∧ l'.Rel β w (C.N β σh) [y] := by
  have hok := hT _ _ ht
  unfold oP at h
  split at h
  ·
    rename_i e te xs hk
    split at h
    · rename_i tie hte
      split at h
      · rename_i hsz
        simp only [aA, aB] at h
        obtain ⟨hi, rfl⟩ := h
        obtain ⟨h0, h1, h2⟩ := sU hi
        simp only [L.Rel, Ty.Rel] at hl
        obtain ⟨x', e1, hs⟩ := hl
        simp only [aK, and_true] at e1
        subst e1
        rcases hs with ⟨_, rfl⟩ | ⟨b, off, cap, css, rfl, hb, hn, hlc, hm, hall, hlen, hcs⟩ | ⟨_, _, _, rfl, _⟩
        rotate_left 2
        · simp at h2
        · simp at h2
        · have hi1 : i.toNat < css.length := by rw [<- hall.length]; exact h2
          have hrel := hall.get i.toNat h2 hi1
          have hcs2 : Cells w b (off + i.toNat * te.size) css[i.toNat] := fun j c hj => by
            have hj' : j < te.size := by rw [<- hlen css[i.toNat] (List.getElem_mem hi1)]; exact (aS.1 hj).1
            have := hcs (i.toNat * te.size + j) c (by rw [qR css hlen i.toNat j hi1 hj', hj])
            rwa [show off + (i.toNat * te.size + j) = off + i.toNat * te.size + j by omega] at this
          have hget : dF te.dflt xs i = xs[i.toNat] := by
            simp only [dF, List.getD_eq_getElem?_getD]; rw [List.getElem?_eq_getElem h2]; rfl
          refine ⟨.pointer (some ⟨b, off + i.toNat * te.size, none⟩), ?_, ?_⟩
          · simp only [Instr.indexAt, asIntOf, Sem.run_bind, Sem.run_pure, Result.andThen_ok, run_underlying (hok.slice hk), h0, h1, and_self, if_true, (hT _ _ hte).sizeOf, addr_add, hsz]
          · simp only [L.Rel]
            exact ⟨_, rfl, b, off + i.toNat * te.size, css[i.toNat], rfl, hb, fun j g1 g2 => hn j (by omega) (by rw [hlen _ (List.getElem_mem hi1)] at g2; have := Wu (n := te.size) h2; omega), by rw [hget]; exact hrel, hcs2⟩
      · cases h
    · cases h
  ·
    rename_i e id ver off len hk
    split at h
    · rename_i _ _ e' te v rows wr tie ho hte
      split at h
      · rename_i hsz
        simp only [aA, aB, aF] at h
        obtain ⟨⟨⟨sV, hi⟩, hle⟩, rfl⟩ := h
        have sV := aG sV
        have hle := of_decide_eq_true hle
        obtain ⟨h0, h1, h2⟩ := sU hi
        have hob := hh.obj id _ ho
        simp only [Ob.Rel] at hob
        obtain ⟨hlive, rQ, hpv, hpz, hpos, zGu, hob⟩ := hob
        simp only [L.Rel] at hl
        obtain ⟨_, _, _, c0, hc0, _, himp⟩ := hl
        have hsl := himp (by rw [hpv, sV])
        simp only [aK, and_true] at hc0
        subst hc0
        unfold dU at hsl
        rcases hob with ⟨hnb, hr0, _⟩ | ⟨b, cur, css, hb, hheap, hall, htake, hcap, _, _⟩
        · rw [hnb] at hsl
          simp only at hsl
          omega
        · rw [hb] at hsl
          simp only at hsl
          obtain ⟨hoff, o, rfl, ho'⟩ := hsl
          have ho' : o = off * (β id).size := by
            rcases ho' with h | h
            · exact h
            · omega
          refine ⟨.pointer (some ⟨b, o + i.toNat * te.size, none⟩), ?_, ?_⟩
          · simp only [Instr.indexAt, asIntOf, Sem.run_bind, Sem.run_pure, Result.andThen_ok, run_underlying (hok.slice hk), h0, h1, and_self, if_true, (hT _ _ hte).sizeOf, addr_add, hsz]
          · simp only [L.Rel]
            refine ⟨hlive, rQ, by omega, _, rfl, rfl, fun _ => ⟨b, hb, ?_⟩⟩
            rw [ho', hpz, Nat.add_mul, Nat.add_zero]
      · cases h
    · cases h
  ·
    rename_i n e id off hk
    split at h
    · rename_i tie hte
      simp only [aA, aB] at h
      obtain ⟨hi, rfl⟩ := h
      obtain ⟨h0, h1, h2⟩ := sU hi
      simp only [L.Rel] at hl
      obtain ⟨hlive, rQ, b, hb, hx⟩ := hl
      simp only [aK, and_true] at hx
      subst hx
      refine ⟨.pointer (some ⟨b, off + i.toNat * tie.size, none⟩), ?_, ?_⟩
      · simp only [Instr.indexAt, asIntOf, Sem.run_bind, Sem.run_pure, Result.andThen_ok, run_underlying (hok.arr hk), Instr.sureAddr, h0, h1, and_self, if_true, (hT _ _ hte).sizeOf, addr_add]
      · simp only [L.Rel]
        exact ⟨hlive, rQ, b, hb, rfl⟩
    · cases h
  ·
    rename_i n e t0 x0 off hk
    split at h
    · rename_i tie hte
      split at h
      · rename_i m te xs htk
        split at h
        · rename_i hc
          obtain ⟨rfl, hsz⟩ := hc
          simp only [aA, aB] at h
          obtain ⟨hi, rfl⟩ := h
          obtain ⟨h0, h1, h2⟩ := sU hi
          simp only [L.Rel] at hl
          obtain ⟨c0, hc0, b, o, cs, rfl, hb, hn, hrel, hcs⟩ := hl
          simp only [aK, and_true] at hc0
          subst hc0
          obtain ⟨hr, hle⟩ := qX (β := β) htk (fE hrel)
          obtain ⟨d1, d2, e1, hr1, hr2⟩ := hr
          simp only [aL] at hr2
          subst hr2
          rw [List.append_nil] at e1
          simp only [L.Rel, Ty.Rel] at hr1
          obtain ⟨hxl, css, e2, hall⟩ := hr1
          have hlen : ∀ c ∈ css, c.length = te.size := fun c hc => by
            obtain ⟨y, _, hy⟩ := hall.mem_right c hc
            exact hy.length
          have hi0 : i.toNat < xs.length := by rw [hxl]; exact h2
          have hi1 : i.toNat < css.length := by rw [<- hall.length]; exact hi0
          have zGv := hall.get i.toNat hi0 hi1
          have hcs2 := hcs.sub (off := off) (n := m * tie.size)
          rw [e1, e2] at hcs2
          have zYb : Cells w b (o + off + i.toNat * te.size) css[i.toNat] := fun j c hj => by
            have hj' : j < te.size := by rw [<- hlen css[i.toNat] (List.getElem_mem hi1)]; exact (aS.1 hj).1
            have := hcs2 (i.toNat * te.size + j) c (by rw [qR css hlen i.toNat j hi1 hj', hj])
            rwa [show o + off + (i.toNat * te.size + j) = o + off + i.toNat * te.size + j by omega] at this
          have hget : dF te.dflt xs i = xs[i.toNat] := by
            simp only [dF, List.getD_eq_getElem?_getD]; rw [List.getElem?_eq_getElem hi0]; rfl
          refine ⟨.pointer (some ⟨b, o + off + i.toNat * te.size, none⟩), ?_, ?_⟩
          · simp only [Instr.indexAt, asIntOf, Sem.run_bind, Sem.run_pure, Result.andThen_ok, run_underlying (hok.arr hk), Instr.sureAddr, h0, h1, and_self, if_true, (hT _ _ hte).sizeOf, addr_add, hsz]
          · simp only [L.Rel]
            have hln : css.flatten.length <= cs.length - off := by
              rw [<- e2, <- e1, List.length_take, List.length_drop]; exact Nat.min_le_right _ _
            have hoff : css.flatten.length = xs.length * te.size := by rw [flatten_length css hlen, <- hall.length]
            exact ⟨_, rfl, b, o + off + i.toNat * te.size, css[i.toNat], rfl, hb, fun j g1 g2 => hn j (by omega) (by
              rw [hlen _ (List.getElem_mem hi1)] at g2
              have := Wu (n := te.size) hi0
              omega), by rw [hget]; exact zGv, zYb⟩
        · cases h
      · cases h
    · cases h
  · cases h
theorem Zy {σh:List Ob} {s ft:TypeId} {ti tf:TI} {fs:List (Nat × TypeId)} {f off:Nat} {l l':L} {x:Value} (hT:aU C.P T) (ht:T.get s=some ti) (hk:ti.k=.struct fs) (hf:fs[f]?=some (off,ft))
  (htf:T.get ft=some tf) (hz:0 < tf.size) (h:zK σh l off=some (true,l')) (hh:dB C β σh w) (hl:l.Rel β w (C.N β σh) [x]):∃ y,(Instr.fieldAt s x f).run C.P w=.ok y w∧l'.Rel β w (C.N β σh) [y]:=by
 obtain ⟨ff,hu,rfl⟩:=(hT _ _ ht).struct hk
 simp only [List.getElem?_map,Option.map_eq_some_iff,aB,Array.getElem?_toList] at hf
 obtain ⟨fld,zYc,rfl,rfl⟩:=hf
 have zUb:∀ (b o:Nat),(fieldPlace ⟨b,o,none⟩ fld).run C.P w=.ok ⟨b,o+fld.offset,none⟩ w:=fun b o=>by
  have:¬ tf.size=0:=by omega
  simp only [fieldPlace,Sem.run_bind,(hT _ _ htf).sizeOf,Result.andThen_ok,this,if_false,Sem.run_pure,addr_add]
 have hrun:∀ (b o:Nat),x=.pointer (some ⟨b,o,none⟩)->(Instr.fieldAt s x f).run C.P w=.ok (.pointer (some ⟨b,o+fld.offset,none⟩)) w:=fun b o hx=>by
  subst hx
  simp only [Instr.fieldAt,Sem.run_bind,run_underlying hu,Result.andThen_ok,zYc,Instr.sureAddr,Sem.run_pure,zUb]
 cases l <;> simp only [zK,reduceCtorEq,aA,aB,true_and] at h
 ·subst h
  simp only [L.Rel] at hl ⊢
  obtain ⟨h1,h2,b,hb,hx⟩:=hl
  simp only [aK,and_true] at hx
  exact ⟨_,hrun b _ hx,h1,h2,b,hb,rfl⟩
 ·subst h
  simp only [L.Rel] at hl ⊢
  obtain ⟨h1,h2,b,hb,hx⟩:=hl
  simp only [aK,and_true] at hx
  exact ⟨_,hrun b _ hx,h1,h2,b,hb,by rw [Nat.add_assoc]⟩
 ·split at h
  ·rename_i e t v rows wr ho
   simp only [aA,aB] at h
   obtain ⟨hv,rfl⟩:=h
   have hv:=aG hv
   have hob:=hh.obj _ _ ho
   simp only [Ob.Rel] at hob
   obtain ⟨_,_,hpv,_⟩:=hob
   simp only [L.Rel] at hl ⊢
   obtain ⟨h1,h2,h3,c0,hc0,h4,himp⟩:=hl
   obtain ⟨b,hb,hx⟩:=himp (by rw [hpv,hv])
   simp only [aK,and_true] at hc0
   rw [hx] at hc0
   exact ⟨_,hrun b _ hc0,h1,h2,h3,_,rfl,rfl,fun _=>⟨b,hb,by rw [Nat.add_assoc]⟩⟩
  ·cases h
 ·subst h
  simp only [L.Rel] at hl ⊢
  obtain ⟨c0,hc0,b,o,cs,hx,hb,hn,hrel,hcs⟩:=hl
  simp only [aK,and_true] at hc0
  subst hc0
  exact ⟨_,hrun b _ hx,_,rfl,b,o,cs,by rw [Nat.add_assoc],hb,hn,hrel,hcs⟩
theorem zSq {σh:List Ob} {t:TypeId} {ti:TI} {v v':V} {x:Value} {k:IntKind} {i:Int} (hT:aU C.P T) (ht:T.get t=some ti) (hk:ti.k=.str) (h:idx v i=some (true,v'))
  (hl:v.Rel β w (C.N β σh) x):∃ y,(Instr.index t x (.int k i)).run C.P w=.ok y w∧v'.Rel β w (C.N β σh) y:=by
 unfold idx at h
 split at h
 ·rename_i s
  simp only [aA,aB] at h
  obtain ⟨hi,rfl⟩:=h
  obtain ⟨h0,h1,h2⟩:=sU hi
  simp only [V.Rel,L.Rel,Ty.Rel,aK,and_true] at hl
  subst hl
  have hget:dF 0 s i=s[i.toNat]:=by
   simp only [dF,List.getD_eq_getElem?_getD]; rw [List.getElem?_eq_getElem h2]; rfl
  have hb:(ByteArray.mk s.toArray)[i.toNat]?=some s[i.toNat]:=by
   have hsz:i.toNat < (ByteArray.mk s.toArray).size:=by rw [size_mk]; exact h2
   rw [getElem?_pos (ByteArray.mk s.toArray) i.toNat hsz]
   rfl
  refine ⟨.int .u8 s[i.toNat].toNat,?_,?_⟩
  ·simp only [Instr.index,asIntOf,Sem.run_bind,Sem.run_pure,Result.andThen_ok,run_underlying ((hT _ _ ht).str hk),h0,if_true,hb]
  ·simp only [V.Rel,L.Rel,Ty.Rel,hget]
 ·cases h
theorem gL {isSlice:Bool} {n cap:Nat} {lo hi:Option Int} {kl kh:IntKind} (hc:n <= cap) (h:(bounds n lo hi).1=true) :
  (Instr.sliceBounds isSlice n cap (lo.map (.int kl)) (hi.map (.int kh)) none).run C.P w=.ok ((bounds n lo hi).2.1,(bounds n lo hi).2.2,cap) w∧(bounds n lo hi).2.1 <= (bounds n lo hi).2.2∧(bounds n lo hi).2.2 <= n:=by
 cases lo with
 | none =>
  cases hi with
  | none=>simp [Instr.sliceBounds,bounds]
  | some y =>
   simp only [bounds,aF,decide_eq_true_eq] at h
   have hy:y <= (cap:Int):=by omega
   simp only [Instr.sliceBounds,Option.map_none,Option.map_some,Sem.run_bind,Sem.run_pure,Result.andThen_ok,Instr.sliceBound,asIntOf,h.1,hy,and_self,if_true,bounds]
   exact ⟨trivial,by omega,by omega⟩
 | some x =>
  cases hi with
  | none =>
   simp only [bounds,aF,decide_eq_true_eq] at h
   simp only [Instr.sliceBounds,Option.map_none,Option.map_some,Sem.run_bind,Sem.run_pure,Result.andThen_ok,Instr.sliceBound,asIntOf,h.1,h.2,and_self,if_true,bounds]
   exact ⟨trivial,by omega,by omega⟩
  | some y =>
   simp only [bounds,aF,decide_eq_true_eq] at h
   have hy:y <= (cap:Int):=by omega
   have hx:x <= ((y.toNat:Nat):Int):=by omega
   simp only [Instr.sliceBounds,Option.map_some,Sem.run_bind,Sem.run_pure,Result.andThen_ok,Instr.sliceBound,asIntOf,h.1.1,hy,h.2.1,hx,and_self,if_true,bounds]
   exact ⟨trivial,by omega,by omega⟩
theorem Qp {α:Type} (xs:List α) (lo hi:Option Int) (h:(bounds xs.length lo hi).1=true):cut xs lo hi=(xs.take (bounds xs.length lo hi).2.2).drop (bounds xs.length lo hi).2.1:=by
 cases lo <;> cases hi <;> simp [cut,bounds]
theorem extract_mk (s:List UInt8) (a b:Nat):(ByteArray.mk s.toArray).extract a b=ByteArray.mk ((s.take b).drop a).toArray:=by
 apply ByteArray.ext
 rw [ByteArray.data_extract]
 simp [List.extract_eq_take_drop,List.drop_take]
theorem zOj {σh:List Ob} {t e:TypeId} {ti tie:TI} {te:Ty} {xs:List te.den} {x:Value} {k1 k2:IntKind} (hT:aU C.P T) (ht:T.get t=some ti) (hk:ti.k=.slice e) (hte:T.get e=some tie) (hsz:tie.size=te.size)
  (hl:(L.val (.slice te) xs).Rel β w (C.N β σh) [x]) :
  ∃ y,(Instr.sliceAt t x none (some (.int k1 (xs.length:Int))) (some (.int k2 (xs.length:Int)))).run C.P w=.ok y w∧(Ty.clip te).Rel w (C.N β σh) xs [y]:=by
 have hu:=(hT _ _ ht).slice hk
 simp only [L.Rel,Ty.Rel] at hl
 obtain ⟨x',e1,hs⟩:=hl
 simp only [aK,and_true] at e1
 subst e1
 have run:∀ (ad:Option Addr) (cap:Nat),xs.length <= cap->(Instr.sliceAt t (.slice ad xs.length cap) none (some (.int k1 (xs.length:Int))) (some (.int k2 (xs.length:Int)))).run C.P w=.ok (.slice (if xs.length=0 then ad else ad.map (·.add (0 * tie.size))) xs.length xs.length) w:=by
  intro ad cap hc
  have hc':(xs.length:Int) <= (cap:Int):=by omega
  have h0:(0:Int) <= (xs.length:Int):=by omega
  simp only [Instr.sliceAt,Instr.slice,Sem.run_bind,run_underlying hu,Result.andThen_ok,Instr.sliceBounds,Instr.sliceBound,asIntOf,Sem.run_pure,hc',h0,Int.le_refl,and_self,if_true,Int.toNat_natCast,(hT _ _ hte).sizeOf,Nat.sub_zero]
 rcases hs with ⟨rfl,rfl⟩ | ⟨b,off,cap,css,rfl,hb,hn,hlc,hm,hr,hz,hc⟩ | ⟨ad,cap,rfl,rfl,hm⟩
 ·exact ⟨_,run none 0 (aI _),_,rfl,.inl ⟨rfl,rfl⟩,_,_,rfl⟩
 ·refine ⟨_,run (some ⟨b,off,none⟩) cap hlc,_,rfl,.inr (.inl ⟨b,off,xs.length,css,?_,hb,hn,aI _,by omega,hr,hz,hc⟩),_,_,rfl⟩
  split <;> simp [addr_add]
 ·exact ⟨_,run (some ad) cap (Nat.zero_le _),_,rfl,.inr (.inr ⟨ad,0,rfl,rfl,Nat.zero_le _⟩),_,_,rfl⟩
theorem zLd {σh:List Ob} {t:TypeId} {ti:TI} {l l':L} {x:Value} {lo hi:Option Int} {kl kh:IntKind} (hT:aU C.P T) (ht:T.get t=some ti) (h:slice ti.k l lo hi σh=some (true,l')) (hh:dB C β σh w)
  (hl:l.Rel β w (C.N β σh) [x]) (hte:∀ e,ti.k=.slice e->∃ te,T.get e=some te∧(∀ a xs,l=.val (.slice a) xs->a.size=te.size)∧(∀ id ver off len,l=.sl id ver off len->te.size=(β id).size)) :
  ∃ y,(Instr.sliceAt t x (lo.map (.int kl)) (hi.map (.int kh)) none).run C.P w=.ok y w∧l'.Rel β w (C.N β σh) [y]:=by
 have hok:=hT _ _ ht
 unfold slice at h
 split at h
 ·rename_i s hk
  simp only [aA,aB] at h
  obtain ⟨hb,rfl⟩:=h
  simp only [L.Rel,Ty.Rel,aK,and_true] at hl
  subst hl
  have hu:=hok.str hk
  obtain ⟨hr,_,_⟩:=gL (C:=C) (w:=w) (isSlice:=false) (kl:=kl) (kh:=kh) (aI _) hb
  refine ⟨.string ⟨(cut s lo hi).toArray⟩,?_,by simp only [L.Rel,Ty.Rel]⟩
  simp only [Instr.sliceAt,Instr.slice,Sem.run_bind,run_underlying hu,Result.andThen_ok,Option.isSome_none,Bool.false_eq_true,if_false,size_mk,hr,Sem.run_pure,extract_mk,Qp s lo hi hb]
 ·rename_i e te xs hk
  simp only [aA,aB] at h
  obtain ⟨hb,rfl⟩:=h
  obtain ⟨tie,htie,hsz,_⟩:=hte e hk
  have hsz:=hsz te xs rfl
  simp only [L.Rel,Ty.Rel] at hl
  obtain ⟨x',e1,hs⟩:=hl
  simp only [aK,and_true] at e1
  subst e1
  have hu:=hok.slice hk
  rcases hs with ⟨rfl,rfl⟩ | ⟨b,off,cap,css,rfl,hbl,hn,hlc,hm,hall,hlen,hcs⟩ | ⟨ad,cap,rfl,rfl,hcm⟩
  rotate_left 2
  ·obtain ⟨hr,h3,h4⟩:=gL (C:=C) (w:=w) (isSlice:=true) (kl:=kl) (kh:=kh) (Nat.zero_le cap) hb
   have hcut:cut ([]:List te.den) lo hi=[]:=by rw [Qp _ _ _ hb]; simp
   have h5:(bounds 0 lo hi).2.2=0:=by simpa using h4
   have h6:(bounds 0 lo hi).2.1=0:=by omega
   refine ⟨.slice (some (if cap=0 then ad else ad.add (0 * tie.size))) 0 cap,?_,by simp only [L.Rel,Ty.Rel,hcut]; exact ⟨_,rfl,.inr (.inr ⟨_,_,rfl,rfl,hcm⟩)⟩⟩
   simp only [Instr.sliceAt,Instr.slice,Sem.run_bind,run_underlying hu,Result.andThen_ok,hr,(hT _ _ htie).sizeOf,Sem.run_pure,h5,h6]
   split <;> rfl
  ·obtain ⟨hr,h3,h4⟩:=gL (C:=C) (w:=w) (isSlice:=true) (kl:=kl) (kh:=kh) (aI 0) hb
   have hcut:cut ([]:List te.den) lo hi=[]:=by rw [Qp _ _ _ hb]; simp
   have h5:(bounds 0 lo hi).2.2=0:=by simpa using h4
   have h6:(bounds 0 lo hi).2.1=0:=by omega
   refine ⟨.slice none 0 0,?_,by simp only [L.Rel,Ty.Rel,hcut]; exact ⟨_,rfl,.inl ⟨rfl,rfl⟩⟩⟩
   simp only [Instr.sliceAt,Instr.slice,Sem.run_bind,run_underlying hu,Result.andThen_ok,hr,(hT _ _ htie).sizeOf,Sem.run_pure,h5,h6]
   rfl
  ·obtain ⟨hr,h3,h4⟩:=gL (C:=C) (w:=w) (isSlice:=true) (kl:=kl) (kh:=kh) hlc hb
   generalize hlo:(bounds xs.length lo hi).2.1=a at *
   generalize hhi:(bounds xs.length lo hi).2.2=c at *
   have hcut:cut xs lo hi=(xs.take c).drop a:=by rw [Qp _ _ _ hb,hlo,hhi]
   have zGw:((xs.take c).drop a).length=c - a:=by simp; omega
   refine ⟨.slice (some (if cap=a then ⟨b,off,none⟩ else (⟨b,off,none⟩:Addr).add (a * tie.size))) (c - a) (cap - a),?_,?_⟩
   ·simp only [Instr.sliceAt,Instr.slice,Sem.run_bind,run_underlying hu,Result.andThen_ok,hr,(hT _ _ htie).sizeOf,Sem.run_pure]
    split <;> rfl
   ·simp only [L.Rel,Ty.Rel]
    refine ⟨_,rfl,.inr (.inl ⟨b,if cap=a then off else off+a * tie.size,cap - a,(css.take c).drop a,?_,hbl,?_,?_,by omega,?_,?_,?_⟩)⟩
    rotate_left 1
    ·intro j g1 g2
     rw [hcut,zGw] at g2
     split at g1
     ·rename_i hca
      rw [if_pos hca] at g2
      have:c - a=0:=by omega
      rw [this] at g2
      omega
     ·rename_i hca
      rw [if_neg hca] at g2
      rw [<- hsz] at g1 g2
      have hc2:c <= xs.length:=by omega
      rcases Nat.le_total a c with hac | hac
      ·have:=zGo (n:=te.size) hc2 hac
       exact hn j (by omega) (by omega)
      ·rw [show c - a=0 by omega] at g2
       omega
    rotate_left 4
    ·rw [hcut,zGw]; split <;> simp [addr_add]
    ·rw [hcut,zGw]; omega
    ·rw [hcut]; exact (hall.take c).drop a
    ·intro d hd; exact hlen d (List.mem_of_mem_take (List.mem_of_mem_drop hd))
    ·have Yu:=hall.length
     split
     ·rename_i hca
      have:(css.take c).drop a=[]:=by apply List.drop_eq_nil_of_le; simp; omega
      rw [this]
      exact Cells.nil
     ·have h1:((css.take c).drop a).flatten=(css.flatten.take (c * te.size)).drop (a * te.size):=by
       rw [kN css hlen,iF (css.take c) fun d hd=>hlen d (List.mem_of_mem_take hd)]
      rw [h1,<- hsz]
      exact (hcs.take _).drop _
 ·rename_i e id ver off len hk
  split at h
  ·rename_i e' te v rows wr ho
   simp only [aA,aB,aF] at h
   obtain ⟨⟨sV,hb⟩,rfl⟩:=h
   have sV:=aG sV
   obtain ⟨tie,htie,_,hsz⟩:=hte e hk
   have hsz:=hsz id ver off len rfl
   have hob:=hh.obj id _ ho
   simp only [Ob.Rel] at hob
   obtain ⟨hlive,rQ,hpv,hpz,hpos,zGu,hob⟩:=hob
   simp only [L.Rel] at hl
   obtain ⟨_,_,zUc,c0,hc0,_,himp⟩:=hl
   have hsl:=himp (by rw [hpv,sV])
   simp only [aK,and_true] at hc0
   subst hc0
   have hu:=hok.slice hk
   unfold dU at hsl
   split at hsl
   ·rename_i hnb
    obtain ⟨rfl,rfl,rfl⟩:=hsl
    obtain ⟨hr,h3,h4⟩:=gL (C:=C) (w:=w) (isSlice:=true) (kl:=kl) (kh:=kh) (aI 0) hb
    have h5:(bounds 0 lo hi).2.2=0:=by simpa using h4
    have h6:(bounds 0 lo hi).2.1=0:=by omega
    refine ⟨.slice none 0 0,?_,?_⟩
    ·simp only [Instr.sliceAt,Instr.slice,Sem.run_bind,run_underlying hu,Result.andThen_ok,hr,(hT _ _ htie).sizeOf,Sem.run_pure,h5,h6]
     rfl
    ·simp only [L.Rel]
     refine ⟨hlive,rQ,zUc,_,rfl,rfl,fun _=>?_⟩
     unfold dU
     rw [hnb]
     simp only [h5,h6]
     exact ⟨trivial,trivial,trivial⟩
   ·rename_i b hbb
    obtain ⟨hoff,o,rfl,ho'⟩:=hsl
    obtain ⟨hr,h3,h4⟩:=gL (C:=C) (w:=w) (isSlice:=true) (kl:=kl) (kh:=kh) (n:=len) (cap:=(β id).cap - off) (by omega) hb
    generalize hlo:(bounds len lo hi).2.1=a at *
    generalize hhi:(bounds len lo hi).2.2=c at *
    refine ⟨.slice (some (if (β id).cap - off=a then ⟨b,o,none⟩ else (⟨b,o,none⟩:Addr).add (a * tie.size))) (c - a) ((β id).cap - off - a),?_,?_⟩
    ·simp only [Instr.sliceAt,Instr.slice,Sem.run_bind,run_underlying hu,Result.andThen_ok,hr,(hT _ _ htie).sizeOf,Sem.run_pure]
     split <;> rfl
    ·simp only [L.Rel]
     refine ⟨hlive,rQ,zUc,_,rfl,rfl,fun _=>?_⟩
     unfold dU
     rw [hbb]
     simp only
     refine ⟨by omega,if (β id).cap - off=a then o else o+a * tie.size,?_,?_⟩
     ·rw [show (β id).cap - off - a=(β id).cap - (off+a) by omega]
      split <;> simp [addr_add]
     ·split
      ·by_cases h0:off+a=0
       ·left
        have h1:off=0:=by omega
        rcases ho' with h | h
        ·rw [h,h0,h1]
        ·omega
       ·right; omega
      ·rcases ho' with h | h
       ·left; rw [h,hsz,Nat.add_mul]
       ·right; omega
  ·cases h
 ·cases h
end
end Go.Dec
namespace Go.Dec
section
variable {β:Nat->Pl} {w w':World} {T:Tab} {C:Ctx} {h:List Ob}
def upd (β:Nat->Pl) (id:Nat) (p:Pl):Nat->Pl:=fun i=>if i=id then p else β i
theorem upd_same (β:Nat->Pl) (id:Nat) (p:Pl):upd β id p id=p:=by simp [upd]
theorem aJ (β:Nat->Pl) {id i:Nat} (p:Pl) (hi:i ≠ id):upd β id p i=β i:=by simp [upd,hi]
structure Same (w w':World):Prop where
 os:w'.os=w.os
 tape:w'.tape=w.tape
 output:w'.output=w.output
theorem Ob.Rel.mono {N N':Nat->Nat->Prop} {o:Ob} {p:Pl} {β':Nat->Pl} (hr:o.Rel β w N p) (hm:Moves β β') (hk:Keep N w w') (hN:∀ b j,b < w.heap.size->N' b j->N b j) (hb:∀ b,o.blks p b->w'.heap[b]?=w.heap[b]?):o.Rel β' w' N' p:=by
 cases o with
 | box e ls =>
  simp only [Ob.Rel] at *
  obtain ⟨h1,h2,b,cs,h3,h4,h5⟩:=hr
  exact ⟨h1,h2,b,cs,h3,h4.mono hm hk hN,by rw [hb b (Ob.qV h3)]; exact h5⟩
 | arr e t ver rows wr =>
  simp only [Ob.Rel] at *
  obtain ⟨h1,h2,h3,h4,h5,h5',h6⟩:=hr
  refine ⟨h1,h2,h3,h4,h5,h5',?_⟩
  rcases h6 with h6 | ⟨b,cur,css,g1,g2,g3,g4⟩
  ·exact .inl h6
  ·exact .inr ⟨b,cur,css,g1,by rw [hb b (Ob.qV g1)]; exact g2,g3.mono fun _ _ hx=>hx.mono hk hN,g4⟩
 | fm tab =>
  simp only [Ob.Rel] at *
  obtain ⟨h1,h2,b,es,n,h3,h4,h5⟩:=hr
  exact ⟨h1,h2,b,es,n,h3,by rw [hb b (Ob.qV h3)]; exact h4,h5⟩
 | dm kt vt es =>
  simp only [Ob.Rel] at *
  obtain ⟨h1,h2,b,ms,h3,h4,h5⟩:=hr
  exact ⟨h1,h2,b,ms,h3,by rw [hb b (Ob.qV h3)]; exact h4,h5.mono hk hN⟩
theorem Ob.Rel.live {N:Nat->Nat->Prop} {o:Ob} {p:Pl} (hr:o.Rel β w N p):p.live=true:=by
 cases o <;> (simp only [Ob.Rel] at hr; exact hr.1)
theorem tL {o:Ob} {p:Pl} {b j:Nat} (hb:∀ b,o.blks p b->w.heap.size <= b) (hlt:b < w.heap.size) (hn:C.N (upd β h.length p) (h++[o]) b j):C.N β h b j:=by
 rcases hn with hn | ⟨id,o',ho',hw,hbk⟩
 ·exact .inl hn
 ·right
  by_cases hid:id < h.length
  ·rw [dG hid] at ho'
   rw [aJ _ _ (by omega)] at hbk
   exact ⟨id,o',ho',hw,hbk⟩
  ·rw [List.getElem?_append_right (by omega)] at ho'
   have:id=h.length:=by
    rcases aY (id - h.length) 1 with h1 | h1
    ·omega
    ·rw [List.getElem?_eq_none (by simpa using h1)] at ho'; cases ho'
   subst this
   rw [upd_same] at hbk
   simp only [Nat.sub_self,List.getElem?_cons_zero,aA] at ho'
   subst ho'
   have:=hb b ⟨j,hbk⟩
   omega
theorem kE (hs:dB C β h w) (p:Pl):Moves β (upd β h.length p):=fun id hl=>by
 left
 apply aJ
 intro e
 subst e
 rw [hs.dead _ (aI _)] at hl
 cases hl
theorem dB.Yv {o:Ob} {p:Pl} (hs:dB C β h w) (hb:∀ b,o.blks p b->w.heap.size <= b∧b < w'.heap.size) (hk:Keep (fun _ _=>False) w w') (hw:Same w w')
  (ho:o.Rel (upd β h.length p) w' (C.N (upd β h.length p) (h++[o])) p):dB C (upd β h.length p) (h++[o]) w':=by
 have hN:∀ b j,b < w.heap.size->C.N (upd β h.length p) (h++[o]) b j->C.N β h b j:=fun b j hlt hn=>tL (fun b h=>(hb b h).1) hlt hn
 have hm:=kE hs p
 have hold:∀ id o',(h++[o])[id]?=some o'->(id < h.length∧h[id]?=some o')∨(id=h.length∧o'=o):=fun id o' ho'=>by
  by_cases hid:id < h.length
  ·rw [dG hid] at ho'; exact .inl ⟨hid,ho'⟩
  ·rw [List.getElem?_append_right (by omega)] at ho'
   right
   rcases aY (id - h.length) 1 with h1 | h1
   ·have:id - h.length=0:=by omega
    rw [this] at ho'
    simp only [List.getElem?_cons_zero,aA] at ho'
    exact ⟨by omega,ho'.symm⟩
   ·rw [List.getElem?_eq_none (by simpa using h1)] at ho'; cases ho'
 refine ⟨?_,?_,?_,?_,hs.n0,?_,Nat.le_trans hs.size hk.size,hw.os.trans hs.os,hw.tape.trans hs.tape,hw.output.trans hs.output,fun j o hj=>by
  obtain ⟨k1,k2⟩:=hs.fixed j o hj
  exact ⟨by simp; omega,fun b hb=>by rw [aJ _ _ (by omega)]; exact k2 b hb⟩⟩
 ·intro id o' ho'
  rcases hold id o' ho' with ⟨hid,ho'⟩ | ⟨rfl,rfl⟩
  ·rw [aJ _ _ (by omega)]
   exact (hs.obj id o' ho').mono hm (hk.weaken fun _ _ h=>h.elim) hN fun b hb=>hk.block b (hs.dH id o' b ho' hb).2.1 (fun _ h=>h)
  ·rw [upd_same]; exact ho
 ·intro id hid
  rw [List.length_append,List.length_singleton] at hid
  rw [aJ _ _ (by omega)]
  exact hs.dead id (by omega)
 ·intro i j o1 o2 b h1 h2 hb1 hb2
  rcases hold i o1 h1 with ⟨hi,k1⟩ | ⟨rfl,rfl⟩ <;> rcases hold j o2 h2 with ⟨hj,k2⟩ | ⟨rfl,rfl⟩
  ·rw [aJ _ _ (by omega)] at hb1 hb2
   exact hs.jT i j o1 o2 b k1 k2 hb1 hb2
  ·rw [aJ _ _ (by omega)] at hb1
   rw [upd_same] at hb2
   have:=(hs.dH i o1 b k1 hb1).2.1
   have:=(hb b hb2).1
   omega
  ·rw [aJ _ _ (by omega)] at hb2
   rw [upd_same] at hb1
   have:=(hs.dH j o2 b k2 hb2).2.1
   have:=(hb b hb1).1
   omega
  ·rfl
 ·intro id o' b ho' hbk
  rcases hold id o' ho' with ⟨hid,ho'⟩ | ⟨rfl,rfl⟩
  ·rw [aJ _ _ (by omega)] at hbk
   obtain ⟨h1,h2,h3⟩:=hs.dH id o' b ho' hbk
   exact ⟨h1,Nat.lt_of_lt_of_le h2 hk.size,by rw [aJ _ _ (by omega)]; exact h3⟩
  ·rw [upd_same] at hbk
   obtain ⟨e,hlt⟩:=hb b hbk
   have h0:=hs.size
   exact ⟨fun _ hn=>by have:=hs.n0 _ _ hn; omega,hlt,.inl (by omega)⟩
 ·exact hs.frame.mQ hk fun _ _ _ h=>h.elim
theorem dB.push {o:Ob} {p:Pl} (hs:dB C β h w) (hb:p.blk=none∨(p.blk=some w.heap.size∧w.heap.size < w'.heap.size)) (hk:Keep (fun _ _=>False) w w') (hw:Same w w')
  (ho:o.Rel (upd β h.length p) w' (C.N (upd β h.length p) (h++[o])) p) (hpl:o.plain=true:=by rfl):dB C (upd β h.length p) (h++[o]) w' :=
 hs.Yv (fun b hbb=>by
  have:=Ob.xV hpl hbb
  rcases hb with e | ⟨e,hlt⟩ <;> rw [e] at this
  ·cases this
  ·simp only [aA] at this; omega) hk hw ho
theorem Sim.Yv {σ:St} {a:Act} {o:Ob} {p:Pl} (hs:Sim C β σ a w) (hb:∀ b,o.blks p b->w.heap.size <= b∧b < w'.heap.size) (hk:Keep (fun _ _=>False) w w') (hw:Same w w')
  (ho:o.Rel (upd β σ.h.length p) w' (C.N (upd β σ.h.length p) (σ.h++[o])) p):Sim C (upd β σ.h.length p) { σ with h:=σ.h++[o] } a w' :=
 ⟨hs.heap.Yv hb hk hw ho,hs.defers,hs.size,fun i v hv=>(hs.reg i v hv).mono (kE hs.heap p) (hk.weaken fun _ _ h=>h.elim) fun _ _ hlt hn=>tL (fun b h=>(hb b h).1) hlt hn⟩
theorem Ed {o:Ob} {p:Pl} (hpl:o.plain=true) (hb:p.blk=none∨p.blk=some w.heap.size):∀ b,o.blks p b->w.heap.size <= b:=fun b hbb=>by
 have:=Ob.xV hpl hbb
 rcases hb with e | e <;> rw [e] at this
 ·cases this
 ·simp only [aA] at this; omega
theorem Sim.push {σ:St} {a:Act} {o:Ob} {p:Pl} (hs:Sim C β σ a w) (hb:p.blk=none∨(p.blk=some w.heap.size∧w.heap.size < w'.heap.size)) (hk:Keep (fun _ _=>False) w w') (hw:Same w w')
  (ho:o.Rel (upd β σ.h.length p) w' (C.N (upd β σ.h.length p) (σ.h++[o])) p) (hpl:o.plain=true:=by rfl):Sim C (upd β σ.h.length p) { σ with h:=σ.h++[o] } a w' :=
 ⟨hs.heap.push hb hk hw ho hpl,hs.defers,hs.size,fun i v hv=>(hs.reg i v hv).mono (kE hs.heap p) (hk.weaken fun _ _ h=>h.elim) fun _ _ hlt hn=>tL (Ed hpl (hb.imp id (·.1))) hlt hn⟩
theorem nL {id:Nat} {o old:Ob} {p:Pl} {b j:Nat} (hold:h[id]?=some old) (hat:∀ b j,b < w.heap.size->o.wr=true->o.at p b j->old.wr=true∧old.at (β id) b j) (hlt:b < w.heap.size)
  (hn:C.N (upd β id p) (h.set id o) b j):C.N β h b j:=by
 rcases hn with hn | ⟨i,o',ho',hw',hbk⟩
 ·exact .inl hn
 ·right
  by_cases hid:i=id
  ·subst hid
   have hi:i < h.length:=(aS.1 hold).1
   rw [List.getElem?_set_self hi] at ho'
   simp only [aA] at ho'
   subst ho'
   rw [upd_same] at hbk
   obtain ⟨g1,g2⟩:=hat b j hlt hw' hbk
   exact ⟨i,old,hold,g1,g2⟩
  ·rw [List.getElem?_set_ne (Ne.symm hid)] at ho'
   rw [aJ _ _ hid] at hbk
   exact ⟨i,o',ho',hw',hbk⟩
theorem dB.zGx {id:Nat} {o old:Ob} {p:Pl} (hs:dB C β h w) (hold:h[id]?=some old) (hat:∀ b j,b < w.heap.size->o.wr=true->o.at p b j->old.wr=true∧old.at (β id) b j)
  (hbl:∀ b,o.blks p b->old.blks (β id) b∨(w.heap.size <= b∧b < w'.heap.size))
  (hk:Keep (fun b j=>old.at (β id) b j∧old.wr=true) w w') (hw:Same w w') (hm:Moves β (upd β id p))
  (ho:o.Rel (upd β id p) w' (C.N (upd β id p) (h.set id o)) p):dB C (upd β id p) (h.set id o) w':=by
 have hN:∀ b j,b < w.heap.size->C.N (upd β id p) (h.set id o) b j->C.N β h b j:=fun b j hlt hn=>nL hold hat hlt hn
 have hi:id < h.length:=(aS.1 hold).1
 have hkN:Keep (C.N β h) w w':=hk.weaken fun b j hbb=>.inr ⟨id,old,hold,hbb.2,hbb.1⟩
 have hcase:∀ i o',(h.set id o)[i]?=some o'->(i ≠ id∧h[i]?=some o')∨(i=id∧o'=o):=fun i o' ho'=>by
  by_cases hid:i=id
  ·subst hid
   rw [List.getElem?_set_self hi] at ho'
   simp only [aA] at ho'
   exact .inr ⟨rfl,ho'.symm⟩
  ·rw [List.getElem?_set_ne (Ne.symm hid)] at ho'
   exact .inl ⟨hid,ho'⟩
 refine ⟨?_,?_,?_,?_,hs.n0,?_,Nat.le_trans hs.size hk.size,hw.os.trans hs.os,hw.tape.trans hs.tape,hw.output.trans hs.output,fun j o' hj=>by
  obtain ⟨k1,k2⟩:=hs.fixed j o' hj
  refine ⟨by simpa using k1,fun b hb=>?_⟩
  obtain ⟨k3,k4⟩:=k2 b hb
  obtain ⟨oj,hoj⟩:∃ oj,h[j]?=some oj:=⟨h[j],by simp [k1]⟩
  rcases hm j (hs.obj j oj hoj).live with e | ⟨e,_⟩
  ·rw [e]; exact ⟨k3,k4⟩
  ·rw [k4] at e; cases e⟩
 ·intro i o' ho'
  rcases hcase i o' ho' with ⟨hne,ho'⟩ | ⟨rfl,rfl⟩
  ·rw [aJ _ _ hne]
   exact (hs.obj i o' ho').mono hm hkN hN fun b hb=>hk.block b (hs.dH i o' b ho' hb).2.1 (fun j hbb=>hne (hs.jT i id o' old b ho' hold hb ⟨j,hbb.1⟩))
  ·rw [upd_same]; exact ho
 ·intro i hl
  rw [List.length_set] at hl
  rw [aJ _ _ (by omega)]
  exact hs.dead i hl
 ·intro i j o1 o2 b h1 h2 hb1 hb2
  rcases hcase i o1 h1 with ⟨hi1,k1⟩ | ⟨rfl,rfl⟩ <;> rcases hcase j o2 h2 with ⟨hj1,k2⟩ | ⟨rfl,rfl⟩
  ·rw [aJ _ _ hi1] at hb1
   rw [aJ _ _ hj1] at hb2
   exact hs.jT i j o1 o2 b k1 k2 hb1 hb2
  ·rw [aJ _ _ hi1] at hb1
   rw [upd_same] at hb2
   have:=(hs.dH i o1 b k1 hb1).2.1
   rcases hbl b hb2 with e | e
   ·exact hs.jT i _ o1 old b k1 hold hb1 e
   ·omega
  ·rw [aJ _ _ hj1] at hb2
   rw [upd_same] at hb1
   have:=(hs.dH j o2 b k2 hb2).2.1
   rcases hbl b hb1 with e | e
   ·exact hs.jT _ j old o2 b hold k2 e hb2
   ·omega
  ·rfl
 ·intro i o' b ho' hbk
  rcases hcase i o' ho' with ⟨hne,ho'⟩ | ⟨rfl,rfl⟩
  ·rw [aJ _ _ hne] at hbk
   obtain ⟨h1,h2,h3⟩:=hs.dH i o' b ho' hbk
   exact ⟨h1,Nat.lt_of_lt_of_le h2 hk.size,by rw [aJ _ _ hne]; exact h3⟩
  ·rw [upd_same] at hbk
   rcases hbl b hbk with e | e
   ·obtain ⟨h1,h2,h3⟩:=hs.dH i old b hold e
    exact ⟨h1,Nat.lt_of_lt_of_le h2 hk.size,h3.imp (fun h=>h) fun h j g1 g2=>(hat b j h2 g1 (by rwa [upd_same] at g2)).elim fun g3 g4=>h j g3 g4⟩
   ·have h0:=hs.size
    exact ⟨fun _ hn=>by have:=hs.n0 _ _ hn; omega,e.2,.inl (by omega)⟩
 ·refine hs.frame.mQ hk fun b j hb hbb=>?_
  rcases (hs.dH id old b hold ⟨j,hbb.1⟩).2.2 with h1 | h1
  ·omega
  ·exact h1 j hbb.2 hbb.1
theorem Sim.zGx {σ:St} {a:Act} {id:Nat} {o old:Ob} {p:Pl} (hs:Sim C β σ a w) (hold:σ.h[id]?=some old) (hat:∀ b j,b < w.heap.size->o.wr=true->o.at p b j->old.wr=true∧old.at (β id) b j)
  (hbl:∀ b,o.blks p b->old.blks (β id) b∨(w.heap.size <= b∧b < w'.heap.size))
  (hk:Keep (fun b j=>old.at (β id) b j∧old.wr=true) w w') (hw:Same w w') (hm:Moves β (upd β id p))
  (ho:o.Rel (upd β id p) w' (C.N (upd β id p) (σ.h.set id o)) p):Sim C (upd β id p) { σ with h:=σ.h.set id o } a w' :=
 ⟨hs.heap.zGx hold hat hbl hk hw hm ho,hs.defers,hs.size,fun i v hv=>(hs.reg i v hv).mono hm (hk.weaken fun _ _ hbb=>.inr ⟨id,old,hold,hbb.2,hbb.1⟩)
  fun _ _ hlt hn=>nL hold hat hlt hn⟩
theorem at_set {id:Nat} {o old:Ob} {p:Pl} (hwr:o.wr=true->old.wr=true) (hb:p.blk=(β id).blk∨p.blk=none∨p.blk=some w.heap.size) (hpl:o.plain=true) :
  ∀ b j,b < w.heap.size->o.wr=true->o.at p b j->old.wr=true∧old.at (β id) b j:=fun b j hlt h1 h2=>by
 have h3:=Ob.Ns hpl h2
 refine ⟨hwr h1,?_⟩
 rcases hb with e | e | e <;> rw [e] at h3
 ·exact Ob.lI h3
 ·cases h3
 ·simp only [aA] at h3; omega
theorem Zz {id:Nat} {o old:Ob} {p:Pl} (hb:p.blk=(β id).blk∨p.blk=none∨(p.blk=some w.heap.size∧w.heap.size < w'.heap.size)) (hpl:o.plain=true) :
  ∀ b,o.blks p b->old.blks (β id) b∨(w.heap.size <= b∧b < w'.heap.size):=fun b h=>by
 have h3:=Ob.xV hpl h
 rcases hb with e | e | ⟨e,hlt⟩ <;> rw [e] at h3
 ·exact .inl (Ob.qV h3)
 ·cases h3
 ·simp only [aA] at h3; right; omega
theorem dB.set {id:Nat} {o old:Ob} {p:Pl} (hs:dB C β h w) (hold:h[id]?=some old) (hwr:o.wr=true->old.wr=true) (hb:p.blk=(β id).blk∨p.blk=none∨(p.blk=some w.heap.size∧w.heap.size < w'.heap.size))
  (hk:Keep (fun b _=>(β id).blk=some b∧old.wr=true) w w') (hw:Same w w') (hm:Moves β (upd β id p))
  (ho:o.Rel (upd β id p) w' (C.N (upd β id p) (h.set id o)) p) (hpl:o.plain=true:=by rfl):dB C (upd β id p) (h.set id o) w' :=
 hs.zGx hold (at_set hwr (hb.imp (fun h=>h) (·.imp (fun h=>h) (·.1))) hpl) (Zz hb hpl) (hk.weaken fun _ _ h=>⟨Ob.lI h.1,h.2⟩) hw hm ho
theorem Sim.set {σ:St} {a:Act} {id:Nat} {o old:Ob} {p:Pl} (hs:Sim C β σ a w) (hold:σ.h[id]?=some old) (hwr:o.wr=true->old.wr=true) (hb:p.blk=(β id).blk∨p.blk=none∨(p.blk=some w.heap.size∧w.heap.size < w'.heap.size))
  (hk:Keep (fun b _=>(β id).blk=some b∧old.wr=true) w w') (hw:Same w w') (hm:Moves β (upd β id p))
  (ho:o.Rel (upd β id p) w' (C.N (upd β id p) (σ.h.set id o)) p) (hpl:o.plain=true:=by rfl):Sim C (upd β id p) { σ with h:=σ.h.set id o } a w' :=
 hs.zGx hold (at_set hwr (hb.imp (fun h=>h) (·.imp (fun h=>h) (·.1))) hpl) (Zz hb hpl) (hk.weaken fun _ _ h=>⟨Ob.lI h.1,h.2⟩) hw hm ho
theorem nM (β:Nat->Pl) (id:Nat):upd β id (β id)=β:=by
 funext i
 unfold upd
 split
 ·rename_i h; rw [h]
 ·rfl
theorem bR (w:World) (o:Obj):Keep (fun _ _=>False) w (w.alloc o):=Keep.qU (M:=fun _=>False) (by simp) (fun b hb _=>heap_alloc_old w o b hb) (fun _ _ h=>h)
theorem xZ (w:World) (o:Obj):Same w (w.alloc o):=⟨rfl,rfl,rfl⟩
theorem pO (w:World):Keep (fun _ _=>False) w w.drew:=Keep.qU (M:=fun _=>False) (aI _) (fun _ _ _=>rfl) (fun _ _ h=>h)
theorem zLe {σ:St} {a:Act} {e:TypeId} {ls:List L} {cs:Array Value} (hs:Sim C β σ a w) (hr:aL β w (C.N β σ.h) ls cs.toList) :
  ∃ β',Moves β β'∧Sim C β' { σ with h:=σ.h++[.box e ls] } a (w.alloc (.cells cs e))∧(L.ptr σ.h.length 0).Rel β' (w.alloc (.cells cs e)) (C.N β' (σ.h++[.box e ls])) [.pointer (some ⟨w.heap.size,0,none⟩)]:=by
 let p:Pl:=⟨true,true,0,some w.heap.size,0,0,0,[]⟩
 have hk:=bR w (.cells cs e)
 refine ⟨upd β σ.h.length p,kE hs.heap p,hs.push (p:=p) (.inr ⟨rfl,by simp⟩) hk (xZ _ _) ?_,?_⟩
 ·simp only [Ob.Rel]
  refine ⟨rfl,rfl,w.heap.size,cs.toList,rfl,?_,?_⟩
  ·exact hr.mono (kE hs.heap p) (hk.weaken fun _ _ h=>h.elim) fun b j hlt hn=>tL (Ed rfl (.inr rfl)) hlt hn
  ·rw [heap_alloc_new]
 ·simp only [L.Rel,upd_same]
  exact ⟨rfl,rfl,w.heap.size,rfl,rfl⟩
theorem zLf {σ:St} {a:Act} {e:TypeId} {t:Ty} {rows:List t.den} {css:List (List Value)} {cs:Array Value} (hs:Sim C β σ a w) (hpos:0 < t.size) (hr:aQ (fun x c=>t.Rel w (C.N β σ.h) x c) rows css)
  (hcs:cs.toList=css.flatten) (hm:rows.length <= maxLen) :
  ∃ β',Moves β β'∧Sim C β' { σ with h:=σ.h++[.arr e t 0 rows true] } a (w.alloc (.cells cs e)) ∧
   (L.own σ.h.length 0).Rel β' (w.alloc (.cells cs e)) (C.N β' (σ.h++[.arr e t 0 rows true])) [.slice (some ⟨w.heap.size,0,none⟩) rows.length rows.length]:=by
 let p:Pl:=⟨true,false,0,some w.heap.size,t.size,rows.length,rows.length,[]⟩
 have hk:=bR w (.cells cs e)
 have hlen:∀ c ∈ css,c.length=t.size:=fun c hc=>by
  obtain ⟨y,_,hy⟩:=hr.mem_right c hc
  exact hy.length
 have hsz:cs.size=rows.length * t.size:=by
  rw [<- Array.length_toList,hcs,flatten_length css hlen,hr.length]
 refine ⟨upd β σ.h.length p,kE hs.heap p,hs.push (p:=p) (.inr ⟨rfl,by simp⟩) hk (xZ _ _) ?_,?_⟩
 ·simp only [Ob.Rel]
  refine ⟨rfl,rfl,rfl,rfl,hpos,rfl,.inr ⟨w.heap.size,cs,css,rfl,?_,?_,?_,hsz,aI _,hm⟩⟩
  ·rw [heap_alloc_new]
  ·exact hr.mono fun _ _ hx=>hx.mono (hk.weaken fun _ _ h=>h.elim) fun b j hlt hn=>tL (Ed rfl (.inr rfl)) hlt hn
  ·rw [List.take_of_length_le (by rw [Array.length_toList]; omega),hcs]
 ·simp only [L.Rel,upd_same]
  refine ⟨rfl,rfl,aI _,_,rfl,rfl,fun _=>?_⟩
  unfold dU
  simp only [p]
  refine ⟨by omega,0,rfl,.inl (by simp)⟩
end
end Go.Dec
namespace Go.Dec
section
variable {β:Nat->Pl} {w:World} {T:Tab} {C:Ctx}
def storeAt (T:Tab) (h:List Ob) (t:TypeId) (l:L) (v:V):Option (Bool × List Ob) :=
 match T.get t,v.leaves with
 | some ti,some new =>
  if sizes new=ti.size then
   match l with
   | .ptr id off =>
    match h[id]? with
    | some (.box e ls)=>(xW ls off new).map fun ls'=>(true,h.set id (.box e ls'))
    | _=>none
   | .jB id off es i sub =>
    match h[id]? with
    | some (.box e ls) =>
     match jM ls off with
     | some (a,.val (.arr n te) xs :: rest) =>
      if te.size=es then
       match xW (explode te (xs.getD i te.dflt)) sub new with
       | some parts =>
        match bJ te parts with
        | some (y,[])=>some (decide (i < n),h.set id (.box e (a++.val (.arr n te) (xs.set i y) :: rest)))
        | _=>none
       | none=>none
      else none
     | _=>none
    | _=>none
   | .eU id ver i off =>
    match h[id]? with
    | some (.arr e te v rows true) =>
     match xW (explode te (rows.getD i te.dflt)) off new with
     | some parts =>
      match bJ te parts with
      | some (y,[])=>some (Nat.beq v ver && decide (i < rows.length),h.set id (.arr e te v (rows.set i y) true))
      | _=>none
     | none=>none
    | _=>none
   | _=>none
  else none
 | _,_=>none
theorem zL {t:TypeId} {ti:TI} (hok:iW C.P t ti) {b off:Nat} {cur:Array Value} {e:TypeId} {x:Value} (hb:w.heap[b]?=some (.cells cur e (0,0))) (hs:x.cells.size=ti.size) (hfit:off+ti.size <= cur.size)
  (h1:∀ c ∈ x.cells.toList,c.oneCell'=true) :
  (storeVar t ⟨b,off,none⟩ x).run C.P w=.ok () (w.setRow b (cur.toList.take off++x.cells.toList++cur.toList.drop (off+ti.size)).toArray):=by
 have hlen:x.cells.toList.length=ti.size:=by simpa using hs
 have:=run_storeCells_at (P:=C.P) b off e x.cells.toList 0 cur w hb (by simp; omega) h1
 simp only [storeVar,Sem.run_bind,hok.sizeOf,Result.andThen_ok,hs,ne_eq,not_true_eq_false,if_false]
 simp only [Nat.add_zero,hlen] at this
 simpa using this
theorem lY {b:Nat} {cs:Array Value}:Keep (fun k _=>k=b) w (w.setRow b cs):=Keep.qU (M:=fun k=>k=b) (by simp) (fun k _ hn=>setRow_other w b k cs hn) (fun _ _ h=>h)
theorem vP {b:Nat} {cs:Array Value}:Same w (w.setRow b cs):=⟨rfl,rfl,rfl⟩
theorem Sim.Cv {σ:St} {a:Act} {id:Nat} {e:TypeId} {ls ls':List L} {b:Nat} {cs cs':List Value} (hs:Sim C β σ a w) (ho:σ.h[id]?=some (.box e ls)) (hb:(β id).blk=some b) (hheap:w.heap[b]?=some (.cells cs.toArray e (0,0)))
  (hr:aL β w (C.N β σ.h) ls' cs'):Sim C β { σ with h:=σ.h.set id (.box e ls') } a (w.setRow b cs'.toArray):=by
 have hob:=hs.heap.obj id _ ho
 simp only [Ob.Rel] at hob
 obtain ⟨hl,hx,_⟩:=hob
 have hm:Moves β (upd β id (β id)):=by rw [nM]; exact Moves.refl β
 have hk:Keep (fun k _=>(β id).blk=some k∧Ob.wr (.box e ls)=true) w (w.setRow b cs'.toArray):=lY.weaken fun k _ hk=>by subst hk; exact ⟨hb,rfl⟩
 have:=hs.set (id:=id) (o:=.box e ls') (p:=β id) (w':=w.setRow b cs'.toArray) ho (fun _=>rfl) (.inl rfl) hk vP hm (by
  simp only [Ob.Rel]
  refine ⟨hl,hx,b,cs',hb,?_,setRow_heap w b _ _ e _ hheap⟩
  refine hr.mono hm (hk.weaken fun k _ hk=>.inr ⟨id,_,ho,rfl,Ob.lI hk.1⟩) fun k j hlt hn=>nL (w:=w) ho (at_set (fun _=>rfl) (.inl rfl) rfl) hlt hn)
 rwa [nM] at this
theorem Sim.zUd {σ:St} {a:Act} {id:Nat} {e:TypeId} {t:Ty} {ver:Nat} {rows rows':List t.den} {b:Nat} {cur cur':Array Value} {zM:List (List Value)} (hs:Sim C β σ a w) (ho:σ.h[id]?=some (.arr e t ver rows true)) (hb:(β id).blk=some b)
  (hheap:w.heap[b]?=some (.cells cur e (0,0))) (hlen:rows'.length=rows.length) (hsz:cur'.size=cur.size) (hr:aQ (fun x c=>t.Rel w (C.N β σ.h) x c) rows' zM) (htake:cur'.toList.take (rows'.length * t.size)=zM.flatten) :
  Sim C β { σ with h:=σ.h.set id (.arr e t ver rows' true) } a (w.setRow b cur'):=by
 have hob:=hs.heap.obj id _ ho
 simp only [Ob.Rel] at hob
 obtain ⟨hl,hx,h3,h4,h5,h6,h7⟩:=hob
 have hm:Moves β (upd β id (β id)):=by rw [nM]; exact Moves.refl β
 have hk:Keep (fun k _=>(β id).blk=some k∧Ob.wr (.arr e t ver rows true)=true) w (w.setRow b cur'):=lY.weaken fun k _ hk=>by subst hk; exact ⟨hb,rfl⟩
 have:=hs.set (id:=id) (o:=.arr e t ver rows' true) (p:=β id) (w':=w.setRow b cur') ho (fun _=>rfl) (.inl rfl) hk vP hm (by
  simp only [Ob.Rel]
  refine ⟨hl,hx,h3,h4,h5,by rw [h6,hlen],?_⟩
  rcases h7 with ⟨h7,_⟩ | ⟨b',zZp,css,g1,g2,g3,g4,g5,g6,g7⟩
  ·rw [h7] at hb; cases hb
  ·rw [hb] at g1
   simp only [aA] at g1
   subst g1
   rw [hheap] at g2
   simp only [aA,Obj.cells.injEq] at g2
   obtain ⟨rfl,_⟩:=g2
   refine .inr ⟨b,cur',zM,hb,setRow_heap w b _ _ e _ hheap,?_,htake,by rw [hsz,g5],by rw [hlen]; exact g6,g7⟩
   exact hr.mono fun _ _ h=>h.mono (hk.weaken fun k _ hk=>.inr ⟨id,_,ho,rfl,Ob.lI hk.1⟩) fun k j hlt hn=>nL (w:=w) ho (at_set (fun _=>rfl) (.inl rfl) rfl) hlt hn)
 rwa [nM] at this
theorem Ap {α:Type} (cs:List α) (off n:Nat) (ds:List α) (k m:Nat) (hd:ds.length=m) (h1:off <= k) (h2:k+m <= off+n) :
  cs.take k++ds++cs.drop (k+m)=cs.take off++(((cs.drop off).take n).take (k - off)++(ds++((cs.drop off).take n).drop (k - off+m)))++cs.drop (off+n):=by
 have e1:cs.take k=cs.take off++((cs.drop off).take n).take (k - off):=by
  rw [List.take_take,Nat.min_eq_left (by omega)]
  have:k=off+(k - off):=by omega
  rw [show cs.take k=cs.take (off+(k - off)) by rw [<- this],List.take_add]
 have e2:cs.drop (k+m)=((cs.drop off).take n).drop (k - off+m)++cs.drop (off+n):=by
  rw [List.drop_take,List.drop_drop]
  have h4:cs.drop (off+n)=(cs.drop (off+(k - off+m))).drop (n - (k - off+m)):=by
   rw [List.drop_drop]; congr 1; omega
  rw [h4,List.take_append_drop]
  congr 1
  omega
 rw [e1,e2]
 simp
theorem zDv {α:Type} (cs:List α) (k m R:Nat) (d:List α) (hd:d.length=m) (h:k+m <= R) (hR:R <= cs.length) :
  (cs.take k++d++cs.drop (k+m)).take R=(cs.take R).take k++d++(cs.take R).drop (k+m):=by
 have e1:(cs.take R).take k=cs.take k:=by rw [List.take_take,Nat.min_eq_left (by omega)]
 have e2:(cs.take R).drop (k+m)=(cs.drop (k+m)).take (R - (k+m)):=List.drop_take ..
 rw [e1,e2]
 have hl:(cs.take k++d).length=k+m:=by simp; omega
 rw [List.take_append,hl,List.take_of_length_le (by omega)]
theorem Mr {t:Ty} {N:Nat->Nat->Prop} {rows:List t.den} {css:List (List Value)} (hall:aQ (fun x c=>t.Rel w N x c) rows css) {i:Nat} (hi:i < rows.length) {off:Nat} {new parts:List L} {ds:List Value} {y:t.den}
  (hset:xW (explode t (rows.getD i t.dflt)) off new=some parts) (himp:bJ t parts=some (y,[])) (hd:aL β w N new ds) :
  ∃ c',aQ (fun x c=>t.Rel w N x c) (rows.set i y) (css.set i c')∧off+ds.length <= t.size ∧
   (css.set i c').flatten=css.flatten.take (i * t.size+off)++ds++css.flatten.drop (i * t.size+off+ds.length):=by
 have hi1:i < css.length:=by rw [<- hall.length]; exact hi
 have hrel:=hall.get i hi hi1
 have hlen:∀ c ∈ css,c.length=t.size:=fun c hc=>by
  obtain ⟨y,_,hy⟩:=hall.mem_right c hc
  exact hy.length
 have hget:rows.getD i t.dflt=rows[i]:=by
  simp only [List.getD_eq_getElem?_getD]; rw [List.getElem?_eq_getElem hi]; rfl
 rw [hget] at hset
 obtain ⟨hp,hle⟩:=Io (β:=β) hset (fE hrel) hd
 obtain ⟨c1,c2,e,hy,h2⟩:=kK himp hp
 simp only [aL] at h2
 subst h2
 rw [List.append_nil] at e
 have hci:css[i].length=t.size:=hlen _ (List.getElem_mem hi1)
 refine ⟨c1,hall.set i hy,by omega,?_⟩
 rw [<- e]
 have Yw:css.set i (css[i].take off++(ds++css[i].drop (off+ds.length)))=css.take i++(css[i].take off++(ds++css[i].drop (off+ds.length))) :: css.drop (i+1):=List.set_eq_take_append_cons_drop .. |>.trans (by rw [if_pos hi1])
 rw [Yw,List.flatten_append,List.flatten_cons]
 have t1:(css.take i).flatten=css.flatten.take (i * t.size):=(kN css hlen i).symm
 have t2:(css.drop (i+1)).flatten=css.flatten.drop ((i+1) * t.size):=(iF css hlen (i+1)).symm
 have hfl:css.flatten.length=css.length * t.size:=flatten_length css hlen
 have hmul:(i+1) * t.size <= css.length * t.size:=Nat.mul_le_mul_right _ hi1
 have hsm:(i+1) * t.size=i * t.size+t.size:=Nat.succ_mul _ _
 have t3:(css.flatten.drop (i * t.size)).take t.size=css[i]:=by
  rw [iF css hlen i,List.drop_eq_getElem_cons hi1,List.flatten_cons,<- hci,List.take_left]
 have:=Ap css.flatten (i * t.size) t.size ds (i * t.size+off) ds.length rfl (by omega) (by omega)
 rw [this,t1,t2,t3,hsm,show i * t.size+off - i * t.size=off by omega]
 simp
theorem zDw {σ : St} {a : Act} {t : TypeId} {l : L} {v : V} {x y : Value} {h' : List Ob} (hT : aU C.P T) (h : storeAt T σ.h t l v = some (true, h')) (hs : Sim C β σ a w) (hl : l.Rel β w (C.N β σ.h) [x]) (hv : v.Rel β w (C.N β σ.h) y) :
    ∃ w', (Instr.storeAt t x y).run C.P w = .ok () w' ∧ Sim C β { σ with h := h' } a w' ∧ Keep (C.N β σ.h) w w' := by
  unfold storeAt at h
  split at h
  · rename_i ti new hti hnew
    have hok := hT _ _ hti
    have hr := V.tX hnew hv
    split at h
    · rename_i hsz
      have hyl : y.cells.size = ti.size := by rw [<- hsz, <- hr.length]; simp
      have hdl : y.cells.toList.length = ti.size := by simpa using hyl
      have hone := hr.one
      split at h
      ·
        rename_i id off
        split at h
        · rename_i e ls ho
          cases hset : xW ls off new with
          | none => rw [hset] at h; cases h
          | some ls' =>
            rw [hset] at h
            simp only [Option.map_some, aA, aB, true_and] at h
            subst h
            have hob := hs.heap.obj id _ ho
            simp only [Ob.Rel] at hob
            obtain ⟨_, _, b, cs, hb, hls, hheap⟩ := hob
            simp only [L.Rel] at hl
            obtain ⟨_, _, b', hb', hx⟩ := hl
            rw [hb] at hb'
            simp only [aA] at hb'
            subst hb'
            simp only [aK, and_true] at hx
            subst hx
            obtain ⟨hr', hle⟩ := Io hset hls hr
            have hrun := zL hok (off := off) hheap hyl (by simp; omega) hone
            refine ⟨_, by simpa only [Instr.storeAt, Instr.sureAddr, Sem.run_bind, Sem.run_pure, Result.andThen_ok] using hrun, ?_⟩
            rw [hdl] at hr'
            rw [List.append_assoc]
            exact ⟨hs.Cv ho hb hheap hr', lY.weaken fun k _ hk => .inr ⟨id, _, ho, rfl, Ob.lI (by rw [hk]; exact hb)⟩⟩
        · cases h
      ·
        rename_i id off es i sub
        split at h
        · rename_i e ls ho
          split at h
          · rename_i a0 n te xs rest hsp
            split at h
            · rename_i hes
              subst hes
              split at h
              · rename_i parts hset
                split at h
                · rename_i z himp
                  simp only [aA, aB] at h
                  obtain ⟨hi, rfl⟩ := h
                  have hi := of_decide_eq_true hi
                  have hob := hs.heap.obj id _ ho
                  simp only [Ob.Rel] at hob
                  obtain ⟨_, _, b, cs, hb, hls, hheap⟩ := hob
                  simp only [L.Rel] at hl
                  obtain ⟨_, _, b', hb', hx⟩ := hl
                  rw [hb] at hb'
                  simp only [aA] at hb'
                  subst hb'
                  simp only [aK, and_true] at hx
                  subst hx
                  obtain ⟨hra, hrb, hoff⟩ := lX hsp hls
                  obtain ⟨c1, c2, e1, h1, h2⟩ := hrb
                  simp only [L.Rel, Ty.Rel] at h1
                  obtain ⟨hn, css, e2, hall⟩ := h1
                  have hlen : ∀ c ∈ css, c.length = te.size := fun c hc => by
                    obtain ⟨y, _, hy⟩ := hall.mem_right c hc
                    exact hy.length
                  have hi0 : i < xs.length := by rw [hn]; exact hi
                  obtain ⟨c', Qq, hle, hfl⟩ := Mr hall hi0 hset himp hr
                  have hcl : c1.length = n * te.size := by rw [e2, flatten_length css hlen, <- hall.length, hn]
                  have hcs : cs.length = off + (c1.length + c2.length) := by
                    have := congrArg List.length e1
                    simp at this; omega
                  have hmul : (i + 1) * te.size <= n * te.size := Nat.mul_le_mul_right _ hi
                  have hsm : (i + 1) * te.size = i * te.size + te.size := Nat.succ_mul _ _
                  have hrun := zL hok (off := off + i * te.size + sub) (x := y) hheap hyl (by simp; omega) hone
                  refine ⟨_, by simpa only [Instr.storeAt, Instr.sureAddr, Sem.run_bind, Sem.run_pure, Result.andThen_ok] using hrun, ?_⟩
                  have hrel : aL β w (C.N β σ.h) (a0 ++ .val (.arr n te) (xs.set i z) :: rest) (cs.take off ++ ((css.set i c').flatten ++ c2)) := by
                    refine hra.append ⟨_, _, rfl, ?_, h2⟩
                    simp only [L.Rel, Ty.Rel]
                    exact ⟨by simpa using hn, _, rfl, Qq⟩
                  have heq : cs.take (off + i * te.size + sub) ++ y.cells.toList ++ cs.drop (off + i * te.size + sub + ti.size) = cs.take off ++ ((css.set i c').flatten ++ c2) := by
                    have := Ap cs off c1.length y.cells.toList (off + i * te.size + sub) ti.size hdl (by omega) (by omega)
                    rw [this, show off + i * te.size + sub - off = i * te.size + sub by omega, hfl]
                    have t1 : (cs.drop off).take c1.length = c1 := by rw [e1, List.take_left]
                    have t2 : cs.drop (off + c1.length) = c2 := by rw [<- List.drop_drop, e1, List.drop_left]
                    rw [t1, t2, e2, hdl]
                    simp
                  rw [heq]
                  exact ⟨hs.Cv ho hb hheap hrel, lY.weaken fun k _ hk => .inr ⟨id, _, ho, rfl, Ob.lI (by rw [hk]; exact hb)⟩⟩
                · cases h
              · cases h
            · cases h
          · cases h
        · cases h
      ·
        rename_i id ver i off
        split at h
        · rename_i e te vv rows ho
          split at h
          · rename_i parts hset
            split at h
            · rename_i z himp
              simp only [aA, aB, aF] at h
              obtain ⟨⟨sV, hi⟩, rfl⟩ := h
              have sV := aG sV
              have hi := of_decide_eq_true hi
              have hob := hs.heap.obj id _ ho
              simp only [Ob.Rel] at hob
              obtain ⟨_, _, hpv, hpz, hpos, zGu, hob⟩ := hob
              simp only [L.Rel] at hl
              obtain ⟨_, _, _, c0, hc0, _, hb0⟩ := hl
              obtain ⟨b', hb', hx⟩ := hb0 (by rw [hpv, sV])
              simp only [aK, and_true] at hc0
              subst hc0
              rcases hob with ⟨hnb, _⟩ | ⟨b, cur, css, hb, hheap, hall, htake, hcap, hrc, _⟩
              · rw [hnb] at hb'; cases hb'
              · rw [hb] at hb'
                simp only [aA] at hb'
                subst hb'
                subst hx
                have hlen : ∀ c ∈ css, c.length = te.size := fun c hc => by
                  obtain ⟨y, _, hy⟩ := hall.mem_right c hc
                  exact hy.length
                obtain ⟨c', Qq, hle, hfl⟩ := Mr hall hi hset himp hr
                have hmul : (i + 1) * te.size <= rows.length * te.size := Nat.mul_le_mul_right _ hi
                have zZh : rows.length * te.size <= (β id).cap * te.size := Nat.mul_le_mul_right _ hrc
                have hsm : (i + 1) * te.size = i * te.size + te.size := Nat.succ_mul _ _
                have hrun := zL hok (off := i * te.size + off) (x := y) hheap hyl (by omega) hone
                refine ⟨_, by simpa only [Instr.storeAt, Instr.sureAddr, Sem.run_bind, Sem.run_pure, Result.andThen_ok, hpz] using hrun, ?_⟩
                refine ⟨hs.zUd (zM := css.set i c') ho hb hheap (by simp) ?_ Qq ?_, lY.weaken fun k _ hk => .inr ⟨id, _, ho, rfl, Ob.lI (by rw [hk]; exact hb)⟩⟩
                · simp only [List.size_toArray, List.length_append, List.length_take, List.length_drop, Array.length_toList, hdl]; omega
                · rw [hfl, <- htake, hdl]
                  simp only [List.length_set]
                  have hh : cur.toList.length = cur.size := by simp
                  exact zDv _ _ _ _ _ hdl (by omega) (by omega)
            · cases h
          · cases h
        · cases h
      · cases h
    · cases h
  · cases h
end
end Go.Dec
