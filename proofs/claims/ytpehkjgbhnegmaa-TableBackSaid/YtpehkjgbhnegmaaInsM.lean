/- slices.Insert over files, told. No statement is proved here. -/
import Derived.Test.YtpehkjgbhnegmaaIns
namespace Go.Dec
open Go.Proofs

theorem own_set {C : Ctx} {β : Nat → Pl} {w : World} {σ : St} {a : Act} {e : TypeId} {te : Ty} {ver id : Nat} {rows rows' : List te.den} (hs : Sim C β σ a w) (ho : σ.h[id]? = some (.arr e te ver rows true)) {w' : World} {bk cap : Nat} {cur : Array Value} {css : List (List Value)}
    (hbk : bk = w.heap.size ∧ w.heap.size < w'.heap.size ∨ (β id).blk = some bk) (hkeep : Keep (fun k => (β id).blk = some k ∧ True) w w') (hsame : Same w w')
    (hheap : w'.heap[bk]? = some (.cells cur e (0, 0))) (hall : All2 (fun x c => te.Rel w (C.N β σ.h) x c) rows' css) (htake : cur.toList.take (rows'.length * te.size) = css.flatten) (hcsz : cur.size = cap * te.size) (hle : rows'.length ≤ cap) (hm : cap ≤ maxLen) :
    ∃ β', Moves β β' ∧ Sim C β' { σ with h := σ.h.set id (.arr e te (ver + 1) rows' true) } a w' ∧
      (L.own id (ver + 1)).Rel β' w' (C.N β' (σ.h.set id (.arr e te (ver + 1) rows' true))) [.slice (some ⟨bk, 0, none⟩) rows'.length cap] := by
  have hob := hs.heap.obj _ _ ho
  simp only [Ob.Rel] at hob
  obtain ⟨hlive, hbox, hpv, hpz, hpos, hpl, hob⟩ := hob
  let p : Pl := ⟨true, false, ver + 1, some bk, te.size, cap, rows'.length⟩
  have hmv : Moves β (upd β id p) := fun j hj => by
    by_cases hji : j = id
    · subst hji
      rw [upd_same]
      exact .inr ⟨hbox, rfl, rfl, by rw [hpv]; exact Nat.lt_succ_self _⟩
    · exact .inl (upd_other _ _ hji)
  have hpb : p.blk = (β id).blk ∨ p.blk = none ∨ (p.blk = some w.heap.size ∧ w.heap.size < w'.heap.size) := by
    rcases hbk with ⟨e1, h2⟩ | e1
    · right; right; exact ⟨by simp only [p, e1], h2⟩
    · left; simp only [p, e1]
  have hkk : Keep (fun k => (β id).blk = some k ∧ Ob.wr (.arr e te ver rows true) = true) w w' := hkeep.weaken fun k hk => ⟨hk.1, rfl⟩
  refine ⟨upd β id p, hmv, hs.set (p := p) ho (fun _ => rfl) hpb hkk hsame hmv ?_, ?_⟩
  · simp only [Ob.Rel]
    refine ⟨rfl, rfl, rfl, rfl, hpos, rfl, .inr ⟨bk, cur, css, rfl, hheap, ?_, htake, hcsz, hle, hm⟩⟩
    exact hall.mono fun _ _ h => h.mono (hkk.weaken fun k hk => .inr ⟨id, _, ho, rfl, hk.1⟩) fun k hlt hn => owns_set (w := w) ho (fun _ => rfl) (hpb.imp (fun h => h) (·.imp (fun h => h) (·.1))) hlt hn
  · simp only [L.Rel, upd_same]
    refine ⟨rfl, rfl, Nat.le_refl _, _, rfl, rfl, fun _ => ?_⟩
    unfold SlOwn
    simp only [p]
    exact ⟨by omega, 0, rfl, .inl (by simp)⟩

abbrev TFileI : Ty := .pair .str (.pair .str .unit)
def tabI : Tab := [(51, ⟨.slice 62, 1, 24, [.nils], some (.slice TFileI), false⟩), (62, ⟨.struct [(0, 9), (1, 9)], 2, 32, [.val .str [], .val .str []], some TFileI, true⟩), (9, ⟨.str, 1, 16, [.val .str []], some .str, false⟩)]
theorem tabI_ok : TabOK Try.prog tabI := tabOK_of (by kernel_rfl)
abbrev InsO : List OS := [.row 62 TFileI, .row 62 TFileI]
abbrev slices_InsertI : Sh := ⟨3, [⟨0, false, [.own 0]⟩, ⟨1, false, [.v (.int .i64)]⟩, ⟨2, false, [.own 1]⟩], InsO⟩
abbrev slices_InsertO : Sh := ⟨1, [⟨0, false, [.own 0]⟩], InsO⟩
theorem slices_Insert_meets (n : Nat) : Meets Try.prog 53 slices_InsertI slices_InsertO (slices_Insert n) := by
  refine ⟨by kernel_rfl, fun x y hF C β w xs hP hkf hs => ?_⟩
  obtain ⟨hc, hy⟩ := chk_some hF
  obtain rfl := Option.some.inj hy
  obtain ⟨i, rows, vs, x0⟩ := x
  simp only [Bool.and_eq_true, decide_eq_true_eq] at hc
  obtain ⟨hi0, hi1, hv1, hroom⟩ := hc
  have hv1 := Nat.eq_of_beq_eq_true hv1
  have hroom := Nat.le_of_ble_eq_true hroom
  obtain ⟨i, rfl⟩ : ∃ k : Nat, i = k := ⟨i.toNat, (Int.toNat_of_nonneg hi0).symm⟩
  have hin : i ≤ rows.length := by omega
  have hE : slices_InsertI.enc ((i : Int), rows, vs, x0) = ⟨[.one (.own 0 0), .one (.val (.int .i64) (i : Int)), .one (.own 1 0)], [.arr 62 TFileI 0 rows true, .arr 62 TFileI 0 vs true]⟩ := rfl
  rw [hE] at hs
  have hT : TabOK C.P tabI := by rw [hP]; exact tabI_ok
  have h0 := hs.heap.obj 0 _ rfl
  have h1 := hs.heap.obj 1 _ rfl
  have hr0 := hs.reg 0 _ rfl
  have hr1 := hs.reg 1 _ rfl
  have hr2 := hs.reg 2 _ rfl
  have hsz := hs.size
  obtain ⟨a, b, c, rfl⟩ : ∃ a b c, xs = [a, b, c] := by
    match xs, hsz with
    | [a, b, c], _ => exact ⟨a, b, c, rfl⟩
  simp only [V.Rel, L.Rel, Ty.Rel, List.getElem?_cons_zero, List.getElem?_cons_succ, Option.getD_some, List.cons.injEq, and_true] at hr0 hr1 hr2
  simp only [Ob.Rel] at h0 h1
  obtain ⟨_, _, _, c0, hc0, _, hm0⟩ := hr0
  obtain ⟨_, _, _, c2, hc2, _, hm2⟩ := hr2
  obtain ⟨k1, k2, k3, k4, k5, k6, k7⟩ := h0
  obtain ⟨q1, q2, q3, q4, q5, q6, q7⟩ := h1
  have hso0 := hm0 k3
  have hso2 := hm2 q3
  have ea : a = c0 := by simpa using hc0
  have ec : c = c2 := by simpa using hc2
  have eb : b = .int .i64 (i : Int) := by simpa using hr1
  subst ea ec eb
  rw [k6] at hso0
  rw [q6, hv1] at hso2
  have hlie : LieAt w (C.N β [.arr 62 TFileI 0 rows true, .arr 62 TFileI 0 vs true]) TFileI vs c := rowsOf_rel (te := TFileI) (x := .own 1 0) (ys := vs) hs.heap rfl (hs.reg 2 _ rfl)
  have fin : ∀ {β' : Nat → Pl} {w' : World} {v' : Value} {rows' : List FileD}, rows' = rows.take i ++ vs ++ rows.drop i → HSim C β' [.arr 62 TFileI 1 rows' true, .arr 62 TFileI 0 vs true] w' → (L.own 0 1).Rel β' w' (C.N β' [.arr 62 TFileI 1 rows' true, .arr 62 TFileI 0 vs true]) [v'] →
      ∃ us β2, Ending.returned v' = Ending.returned (retVal us) ∧ Sim C β2 (slices_InsertO.enc (rows.take i ++ vs ++ rows.drop i, vs, ())) { tmps := us.toArray, defers := [] } w' := by
    intro β' w' v' rows' hrw hh hv
    have s3 : Sim C β' ⟨[.one (.own 0 1)], [.arr 62 TFileI 1 rows' true, .arr 62 TFileI 0 vs true]⟩ { tmps := #[v'], defers := [] } w' := ⟨hh, rfl, rfl, fun j q hq => by
      match j, hq with
      | 0, hq => obtain rfl := Option.some.inj hq; exact hv
      | j + 1, hq => simp at hq⟩
    obtain ⟨β3, _, x3, s4, hx⟩ := enter_sim (sh := slices_InsertO) (co := [.gc [0, 1]]) (g := fun y => some y) (r := (rows', vs, ())) hT hkf rfl rfl s3
    obtain rfl := Option.some.inj hx
    subst hrw
    exact ⟨[v'], β3, rfl, s4⟩
  -- the one that is put in
  obtain ⟨vb, vcap, curv, cssv, hvb, hvh, hvall, hvtake, hvcap⟩ : ∃ vb vcap curv cssv, c = .slice (some ⟨vb, 0, none⟩) 1 vcap ∧ w.heap[vb]? = some (.cells curv 62 (0, 0)) ∧ All2 (fun x c => TFileI.Rel w (C.N β [.arr 62 TFileI 0 rows true, .arr 62 TFileI 0 vs true]) x c) vs cssv ∧ curv.toList.take (1 * TFileI.size) = cssv.flatten ∧ (β 1).blk = some vb := by
    rcases q7 with ⟨hn, hvs, _⟩ | ⟨vb, cur, css, hb, hh, hall, htake, hcap, hrc, hcm⟩
    · rw [hvs] at hv1; cases hv1
    · unfold SlOwn at hso2
      rw [hb] at hso2
      obtain ⟨m1, o, rfl, m3⟩ := hso2
      have ho0 : o = 0 := by
        rcases m3 with m3 | m3
        · simpa using m3
        · omega
      subst ho0
      exact ⟨vb, _, cur, css, rfl, hh, hall, by rw [← hv1]; exact htake, hb⟩
  subst hvb
  show Calls Try.prog 53 #[a, .int .i64 (i : Int), .slice (some ⟨vb, 0, none⟩) 1 vcap] w fun e w' => ∃ us β', e = Ending.returned (retVal us) ∧ Sim C β' (slices_InsertO.enc (rows.take i ++ vs ++ rows.drop i, vs, ())) { tmps := us.toArray, defers := [] } w'
  have hflv : cssv.flatten.length = 2 := by rw [flatten_length cssv (rel_lens hvall), ← hvall.length, hv1]; rfl
  have hvcell : ∀ j v, cssv.flatten[j]? = some v → w.cell? ⟨vb, j, none⟩ = some v := fun j v hj => by
    rw [Go.Lib.cell_of_heap hvh]
    rw [← hvtake, List.getElem?_take] at hj
    split at hj
    · simpa using hj
    · cases hj
  have hone : ∀ {l : List FileD} {cs : List (List Value)}, All2 (fun x c => TFileI.Rel w (C.N β [.arr 62 TFileI 0 rows true, .arr 62 TFileI 0 vs true]) x c) l cs → ∀ u ∈ cs.flatten, u.oneCell' = true := fun hall u hu => by
    obtain ⟨c, hc, huc⟩ := List.mem_flatten.1 hu
    obtain ⟨q, _, hq⟩ := hall.mem_right c hc
    exact hq.one u huc
  by_cases hend : i = rows.length
  · subst hend
    obtain ⟨v', w', β2, g1, g2, g3, g4, g5⟩ := appendOwn_run (te := TFileI) (ys := vs) (n := rows.length) (id := 0) 51 hT (st := 51) (e := 62) rfl rfl rfl rfl (by decide) (by rw [hv1]; exact hroom) hs rfl (Nat.le_refl _) hso0 hlie
    rw [hP] at g1
    have done : ∃ us β2, Ending.returned v' = Ending.returned (retVal us) ∧ Sim C β2 (slices_InsertO.enc (rows.take rows.length ++ vs ++ rows.drop rows.length, vs, ())) { tmps := us.toArray, defers := [] } w' := fin (by simp) g3.heap g4
    rcases k7 with ⟨hn, hrn, _⟩ | ⟨g, cur, css, hb, hh, hall, htake, hcap, hrc, hcm⟩
    · unfold SlOwn at hso0
      rw [hn] at hso0
      obtain ⟨rfl, _, h0⟩ := hso0
      rw [show ((rows.length : Nat) : Int) = 0 by omega]
      refine (ins_nil vb vcap w g1).mono ?_
      rintro e W ⟨rfl, rfl⟩
      exact done
    · unfold SlOwn at hso0
      rw [hb] at hso0
      obtain ⟨m1, o, rfl, m3⟩ := hso0
      have ho0 : o = 0 := by
        rcases m3 with m3 | m3
        · simpa using m3
        · omega
      subst ho0
      refine (ins_end g rows.length _ vb vcap w (by omega) g1).mono ?_
      rintro e W ⟨rfl, rfl⟩
      exact done
  · have hil : i < rows.length := by omega
    rcases k7 with ⟨hn, hrn, _⟩ | ⟨g, cur, css, hb, hh, hall, htake, hcap, hrc, hcm⟩
    · subst hrn; simp at hil
    · unfold SlOwn at hso0
      rw [hb] at hso0
      obtain ⟨m1, o, rfl, m3⟩ := hso0
      have ho0 : o = 0 := by
        rcases m3 with m3 | m3
        · simpa using m3
        · omega
      subst ho0
      rw [Nat.sub_zero]
      have hsz2 : TFileI.size = 2 := rfl
      rw [hsz2] at htake hcap
      have hl := rel_lens hall
      rw [hsz2] at hl
      have hne : vb ≠ g := fun e => by
        subst e
        have := hs.heap.apart 0 1 _ _ vb rfl rfl hb hvcap
        omega
      have hrl : (rows.take i ++ vs ++ rows.drop i).length = rows.length + 1 := by simp [hv1]; omega
      have hallN : All2 (fun x c => TFileI.Rel w (C.N β [.arr 62 TFileI 0 rows true, .arr 62 TFileI 0 vs true]) x c) (rows.take i ++ vs ++ rows.drop i) (css.take i ++ cssv ++ css.drop i) := ((hall.take i).append hvall).append (hall.drop i)
      have hflat : (css.take i ++ cssv ++ css.drop i).flatten = cur.toList.take (i * 2) ++ cssv.flatten ++ (cur.toList.take (rows.length * 2)).drop (i * 2) := by
        rw [List.flatten_append, List.flatten_append, ← flatten_take css hl i, ← flatten_drop css hl i, htake, ← htake, List.take_take, Nat.min_eq_left (by omega)]
      have h1c : ∀ v ∈ cur.toList.take (rows.length * 2), v.oneCell' = true := by rw [htake]; exact hone hall
      by_cases hroom2 : rows.length + 1 ≤ (β 0).cap
      · refine (ins_shift g rows.length (β 0).cap i vb vcap cur cssv.flatten w hil hroom2 (by unfold maxLen at hcm; omega) hne hh hcap hflv hvcell h1c (hone hvall) 62 curv.size (by simp [World.shape?, hvh]) (by simp [World.frozen?, hvh]) (by simp [World.frozen?, hvh])).mono ?_
        rintro e W ⟨rfl, hg, cur', hh', hs', ht'⟩
        obtain ⟨β', _, s5, r5⟩ := own_set hs (id := 0) rfl (bk := g) (cap := (β 0).cap) (cur := cur') (css := css.take i ++ cssv ++ css.drop i) (rows' := rows.take i ++ vs ++ rows.drop i) (.inr hb)
          ⟨hg.size, fun k hk hn => hg.block k hk (fun e => hn ⟨by cases e; exact hb, trivial⟩)⟩ ⟨hg.os, hg.tape, hg.output⟩ hh' hallN (by rw [hrl, hsz2, hflat]; exact ht') (by rw [hsz2]; exact hs') (by rw [hrl]; exact hroom2) hcm
        rw [hrl] at r5
        exact fin rfl s5.heap r5
      · refine (ins_grow g rows.length (β 0).cap i vb vcap cur cssv.flatten w hil (by omega) (by omega) (by unfold room at hroom; omega) hh hcap hflv hvcell h1c (hone hvall)).mono ?_
        rintro e W ⟨K, rfl, hK1, hK2, hlt, hg, cur', hh', hs', ht'⟩
        obtain ⟨β', _, s5, r5⟩ := own_set hs (id := 0) rfl (bk := w.heap.size) (cap := K) (cur := cur') (css := css.take i ++ cssv ++ css.drop i) (rows' := rows.take i ++ vs ++ rows.drop i) (.inl ⟨rfl, hlt⟩)
          ⟨hg.size, fun k hk _ => hg.block k hk (fun e => by cases e)⟩ ⟨hg.os, hg.tape, hg.output⟩ hh' hallN (by rw [hrl, hsz2, hflat]; exact ht') (by rw [hsz2]; exact hs') (by rw [hrl]; exact hK1) hK2
        rw [hrl] at r5
        exact fin rfl s5.heap r5
end Go.Dec
