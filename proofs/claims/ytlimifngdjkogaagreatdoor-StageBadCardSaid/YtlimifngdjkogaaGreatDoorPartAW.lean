/- Part of a proof over this seat: a library of my own, and what it says of this seat. No statement is proved here. -/
import Derived.Test.YtlimifngdjkogaaGreatDoorPartAV
import Derived.Test.YtlimifngdjkogaaGreatDoorPartAS
import Derived.Scope
namespace Go.Ce
section
variable {P : Program} {lo : Nat} {β : Bt} {A : W} {w : World} {I : T CI} {evf : Operand -> Option AV} {ρ : Operand -> Value}
theorem Tm (hI : TOK P I) (hW : aL lo β A w) {t : TypeId} {x v : AV} {u : Value} {A' : W} (h : Qi I A t x = some (v, A')) (hu : x.Rel β u) : Gives P lo β A w (Instr.range t u) v A' := by
 unfold Qi at h
 replace h := aA h; obtain ⟨ti, hti, h⟩ := h
 have ok := hI _ _ hti
 split at h
 ·rename_i kt et id hk
  split at h
  ·rename_i es clk hB
   replace h := aA h; obtain ⟨A1, hA, h⟩ := h
   simp only [Option.some.injEq, Prod.mk.injEq] at h
   obtain ⟨rfl, rfl⟩ := h
   obtain ⟨b, n, ms, hb, rfl, hmb, _⟩ := zZ hW hB hu
   obtain ⟨f1, f2, f3⟩ := dL w (.mapIter (some b) clk #[] clk)
   refine ⟨.pointer (some ⟨w.heap.size, 0, none⟩), _, _, ?_, jL (n := 0) hW hA f1 f2 ⟨rfl, b, n, fV hW _ _ _ hb, f3⟩ rfl rfl rfl, w.heap.size, 0, 0, upd_same _ _ _, rfl⟩
   simp [Instr.range, run_underlying (ok.map hk), jM hmb]
  ·cases h
 ·rename_i s hk
  replace h := aA h; obtain ⟨A1, hA, h⟩ := h
  simp only [Option.some.injEq, Prod.mk.injEq] at h
  obtain ⟨rfl, rfl⟩ := h
  obtain ⟨ba, rfl, hba⟩ := hu
  obtain ⟨f1, f2, f3⟩ := dL w (.stringIter ba 0)
  refine ⟨.pointer (some ⟨w.heap.size, 0, none⟩), _, _, ?_, jL (n := 0) hW hA f1 f2 ⟨rfl, ba, hba, f3⟩ rfl rfl rfl, w.heap.size, 0, 0, upd_same _ _ _, rfl⟩
  simp [Instr.range, run_underlying (ok.str hk)]
 ·cases h
theorem Gw : ∀ {es : List (AV × AV × Nat)} {ms : List MapEntry} {seen : List Nat}, aK β es ms -> aK β (Gg seen es) (ms.filter fun e => !seen.reverse.toArray.contains e.born)
 | [], _, _, h => by simp only [aK] at h; subst h; rfl
 | e :: es, _, seen, ⟨x, xs, hx, h1, h2, h3, h4⟩ => by
  subst hx
  have ih := Gw (seen := seen) h4
  have hm : ∀ (n : Nat) (l : List Nat), kV n l = l.contains n := fun n l => by
   induction l with
   | nil => rfl
   | cons a l ih =>
    simp only [kV, ih, List.contains_cons]
    congr 1
    rw [Bool.eq_iff_iff]; simp [Nat.beq_eq]
  simp only [Gg, cnd, hm, h3]
  cases hc : seen.contains x.born with
  | true =>
   simp only [List.filter_cons]
   have : (!seen.reverse.toArray.contains x.born) = false := by simpa using hc
   rw [this]
   simpa using ih
  | false =>
   simp only [List.filter_cons]
   have : (!seen.reverse.toArray.contains x.born) = true := by simpa using hc
   rw [this]
   exact ⟨x, _, rfl, h1, h2, h3, ih⟩
theorem Xp {st : Nat} {seen : List Nat} {es : List (AV × AV × Nat)} {ms : List MapEntry} (hr : aK β es ms) (h : Ba st seen es = true) : (!seen.reverse.toArray.isEmpty && !ms.toArray.isEmpty && ms.toArray.all (fun x => decide (x.born ≥ st))) = false := by
 unfold Ba at h
 split at h
 ·simp
 ·simp only [aK] at hr; subst hr; simp
 ·have key : ∀ {es : List (AV × AV × Nat)} {ms : List MapEntry}, aK β es ms -> Ba.go st es = true -> ∃ m ∈ ms, m.born < st := by
   intro es
   induction es with
   | nil => intro ms _ h; simp [Ba.go] at h
   | cons e es ih =>
    intro ms hr h
    obtain ⟨x, xs, rfl, _, _, h3, h4⟩ := hr
    simp only [Ba.go, Bool.or_eq_true, Nat.blt_eq] at h
    rcases h with h | h
    ·exact ⟨x, .head _, by omega⟩
    ·obtain ⟨m, hm, hlt⟩ := ih h4 h
     exact ⟨m, .tail _ hm, hlt⟩
  obtain ⟨m, hm, hlt⟩ := key hr h
  have : ms.toArray.all (fun x => decide (x.born ≥ st)) = false := by
   rw [Bool.eq_false_iff]
   intro h
   rw [Array.all_eq_true_iff_forall_mem] at h
   have := h m (by simpa using hm)
   simp at this
   omega
  rw [this]; simp
theorem Xq (hW : aL lo β A w) {ty : TypeId} {x v : AV} {b : Bool} {u : Value} {A' : W} (h : Xf lo A x b = some (v, A')) (hu : x.Rel β u) : Gives P lo β A w (Instr.next u b ty) v A' := by
 unfold Xf at h
 split at h
 ·rename_i id
  split at h
  ·rename_i l pos hB
   replace h := aD h; obtain ⟨hc, h⟩ := h
   simp only [Bool.and_eq_true, Nat.ble_eq, Nat.blt_eq] at hc
   obtain ⟨bl, o, n, hb, hlt, rfl, ba, hba, hit⟩ := hW.blk _ _ hB
   obtain ⟨b', o', n', hb', rfl⟩ := hu
   rw [hb] at hb'
   simp only [Option.some.injEq, Prod.mk.injEq] at hb'
   obtain ⟨rfl, rfl, rfl⟩ := hb'
   have hget : (getObj bl).run P w = .ok (.stringIter ba pos) w := by simp [getObj, Sem.run, hit]
   rw [vJ] at h
   split at h
   ·rename_i hd
    simp only [Option.some.injEq, Prod.mk.injEq] at h
    obtain ⟨rfl, rfl⟩ := h
    have hlen : ¬ pos < ba.size := by
     have := congrArg List.length hd
     rw [List.length_drop, <- hba, List.length_map, <- rA] at this
     simp at this
     omega
    refine Gives.pure hW ⟨.tuple #[.bool false], ?_, [.bool false], rfl, _, _, rfl, rfl, rfl⟩
    simp [Instr.next, hget, hlen]
   ·rename_i c r hd
    replace h := aD h; obtain ⟨hc2, h⟩ := h
    rw [Nat.blt_eq] at hc2
    rw [bR] at h
    simp only [Option.some.injEq, Prod.mk.injEq] at h
    obtain ⟨rfl, rfl⟩ := h
    have hlen : pos < ba.size := by
     have := congrArg List.length hd
     rw [List.length_drop, <- hba, List.length_map, <- rA] at this
     simp at this
     omega
    have hg : (ba.data.toList.map UInt8.toNat)[pos]? = some c := by
     rw [hba]
     have := congrArg List.head? hd
     rwa [List.head?_drop, List.head?_cons] at this
    rw [List.getElem?_map, Option.map_eq_some_iff] at hg
    obtain ⟨d, hd1, rfl⟩ := hg
    have hdec : Utf8.decode ba pos = (d.toNat, 1) := by
     have : (ba.get! pos) = d := by
      rw [Array.getElem?_toList] at hd1
      obtain ⟨h1, h2⟩ := Array.getElem?_eq_some_iff.1 hd1
      have : ba.get! pos = ba.data[pos]! := rfl
      rw [this, getElem!_def, Array.getElem?_eq_getElem h1]
      exact h2
     unfold Utf8.decode
     simp only [Nat.add_zero, this]
     rw [if_pos hc2]
    obtain ⟨p1, p2, p3⟩ := gQ w bl (.stringIter ba (pos + 1)) hlt
    refine ⟨.tuple #[.bool true, goInt pos, .int .i32 d.toNat], β, { w with heap := w.heap.setIfInBounds bl (.stringIter ba (pos + 1)) }, ?_, Go.obj hW hB (fun B2 h => by cases B2 <;> exact h) hc.1 hc.2 hb p1 p2 ⟨rfl, ba, hba, p3⟩ rfl rfl rfl, _, rfl, _, _, rfl, rfl, _, _, rfl, rfl, _, _, rfl, rfl, rfl⟩
    have hset : (setObj bl (.stringIter ba (pos + 1))).run P w = .ok () { w with heap := w.heap.setIfInBounds bl (.stringIter ba (pos + 1)) } := by simp [setObj, Sem.run, hit]
    simp [Instr.next, hget, hlen, hdec, hset]
  ·cases h
 ·rename_i id
  split at h
  ·rename_i m since seen st hB
   split at h
   ·rename_i es clk hM
    replace h := aD h; obtain ⟨hc, h⟩ := h
    simp only [Bool.and_eq_true, Nat.ble_eq, Nat.blt_eq] at hc
    obtain ⟨⟨⟨hcs, hlo⟩, hbig⟩, hany⟩ := hc
    have hcs := Nat.eq_of_beq_eq_true hcs
    subst hcs
    obtain ⟨bl, o, n, hb, hlt, rfl, bm, nm, hbm, hit⟩ := hW.blk _ _ hB
    obtain ⟨b', o', n', hb', rfl⟩ := hu
    rw [hb] at hb'
    simp only [Option.some.injEq, Prod.mk.injEq] at hb'
    obtain ⟨rfl, rfl, rfl⟩ := hb'
    obtain ⟨bm', o2, n2, hb2, hlt2, rfl, ms, hm, hrel⟩ := hW.blk _ _ hM
    rw [hbm] at hb2
    simp only [Option.some.injEq, Prod.mk.injEq] at hb2
    obtain ⟨rfl, _, rfl⟩ := hb2
    have hget : (getObj bl).run P w = .ok (.mapIter (some bm) clk seen.reverse.toArray st) w := by simp [getObj, Sem.run, hit]
    have hgm := jM (P := P) hm
    have zDl := Xp hrel hany
    have hleft := Gw (seen := seen) hrel
    split at h
    ·rename_i hl
     simp only [Option.some.injEq, Prod.mk.injEq] at h
     obtain ⟨rfl, rfl⟩ := h
     rw [hl] at hleft
     simp only [aK] at hleft
     have hf : ms.toArray.filter (fun e => !seen.reverse.toArray.contains e.born) = #[] := by rw [List.filter_toArray, hleft]
     refine Gives.pure hW ⟨.tuple #[.bool false], ?_, [.bool false], rfl, _, _, rfl, rfl, rfl⟩
     simp only [Instr.next, Sem.run_bind, Nat.add_zero, hget, Result.andThen_ok, hgm, zDl, Bool.false_eq_true, if_false, hf]
     simp [choose, Sem.run, Question.forced]
    ·rename_i e hl
     replace h := aD h; obtain ⟨hlt3, h⟩ := h
     rw [Nat.blt_eq] at hlt3
     simp only [Option.some.injEq, Prod.mk.injEq] at h
     obtain ⟨rfl, rfl⟩ := h
     rw [hl] at hleft
     obtain ⟨y, ys, hy, h1, h2, h3, h4⟩ := hleft
     simp only [aK] at h4
     subst h4
     have hf : ms.toArray.filter (fun e => !seen.reverse.toArray.contains e.born) = #[y] := by rw [List.filter_toArray, hy]
     have Wv : y.born < clk := by omega
     obtain ⟨p1, p2, p3⟩ := gQ w bl (.mapIter (some bm) clk (e.2.2 :: seen).reverse.toArray clk) hlt
     refine ⟨.tuple #[.bool true, y.key, y.val], β, { w with heap := w.heap.setIfInBounds bl (.mapIter (some bm) clk (e.2.2 :: seen).reverse.toArray clk) }, ?_, Go.obj hW hB (fun B2 h => by cases B2 <;> exact h) hlo hbig hb p1 p2 ⟨rfl, bm, nm, hbm, p3⟩ rfl rfl rfl, _, rfl, _, _, rfl, rfl, _, _, rfl, h1, _, _, rfl, h2, rfl⟩
     have hset : (setObj bl (.mapIter (some bm) clk (seen.reverse.toArray.push y.born) clk)).run P w = .ok () { w with heap := w.heap.setIfInBounds bl (.mapIter (some bm) clk (e.2.2 :: seen).reverse.toArray clk) } := by
      rw [h3]; simp [setObj, Sem.run, hit]
     simp only [Instr.next, Sem.run_bind, Nat.add_zero, hget, Result.andThen_ok, hgm, zDl, Bool.false_eq_true, if_false, hf]
     have hfo : (#[y] : Array MapEntry).filter (fun x => decide (x.born < clk)) = #[y] := by simp [Wv]
     have hfn : (#[y] : Array MapEntry).filter (fun x => decide (x.born ≥ clk)) = #[] := by simp [Wv]
     simp only [hfo, hfn]
     have hch : (Sem.choose (.mapNext 1) Sem.pure : Sem Nat).run P w = .ok 0 w := by simp [Sem.run, Question.forced]
     simp only [List.push_toArray] at hset
     simp [choose, hch, hset]
    ·cases h
   ·cases h
  ·cases h
 ·cases h
end
end Go.Ce
namespace Go.Ce
section
variable {P : Program} {lo : Nat} {β : Bt} {A : W} {w : World} {I : T CI} {evf : Operand -> Option AV} {ρ : Operand -> Value}
theorem Xr {l : List Nat} {n : Nat} (h : Mr l = some n) : l.reverse.toArray.back? = some n := by
 cases l with
 | nil => simp [Mr] at h
 | cons a l =>
  simp only [Mr, Option.some.injEq] at h
  subst h
  simp
theorem Gx {n : Nat} : ∀ {es : List (AV × AV × Nat)} {ms : List MapEntry} {e : AV × AV}, Gh n es = some e -> aK β es ms -> ∃ m, ms.find? (·.born == n) = some m ∧ e.1.Rel β m.key ∧ e.2.Rel β m.val
 | [], _, _, h, _ => by simp [Gh] at h
 | a :: es, ms, e, h, hr => by
  obtain ⟨x, xs, rfl, h1, h2, h3, h4⟩ := hr
  simp only [Gh, cnd] at h
  split at h
  ·rename_i hb
   simp only [Option.some.injEq] at h
   subst h
   have hb := Nat.eq_of_beq_eq_true hb
   exact ⟨x, by rw [List.find?_cons]; simp [<- h3, hb], h1, h2⟩
  ·rename_i hb
   obtain ⟨m, k1, k2⟩ := Gx h h4
   refine ⟨m, ?_, k2⟩
   have hne : (x.born == n) = false := by
    rw [beq_eq_false_iff_ne]
    intro e1
    rw [<- h3] at e1
    rw [e1, Nat.beq_refl] at hb
    cases hb
   rw [List.find?_cons, hne]
   exact k1
theorem Tn (hW : aL lo β A w) {x v : AV} {u : Value} (h : Qj A x = some v) (hu : x.Rel β u) : ∃ y, (Instr.entry u).run P w = .ok y w ∧ v.Rel β y := by
 unfold Qj at h
 split at h
 ·rename_i id
  split at h
  ·rename_i m since seen st hB
   split at h
   ·rename_i es clk hM
    replace h := aD h; obtain ⟨hc, h⟩ := h
    have hc := Nat.eq_of_beq_eq_true hc
    subst hc
    replace h := aA h; obtain ⟨n, hn, h⟩ := h
    replace h := aA h; obtain ⟨e, he, h⟩ := h
    simp only [Option.some.injEq] at h
    subst h
    obtain ⟨bl, o, k, hb, hlt, rfl, bm, nm, hbm, hit⟩ := hW.blk _ _ hB
    obtain ⟨b', o', n', hb', rfl⟩ := hu
    rw [hb] at hb'
    simp only [Option.some.injEq, Prod.mk.injEq] at hb'
    obtain ⟨rfl, rfl, rfl⟩ := hb'
    obtain ⟨bm', o2, n2, hb2, hlt2, rfl, ms, hm, hrel⟩ := hW.blk _ _ hM
    rw [hbm] at hb2
    simp only [Option.some.injEq, Prod.mk.injEq] at hb2
    obtain ⟨rfl, _, rfl⟩ := hb2
    have hget : (getObj bl).run P w = .ok (.mapIter (some bm) since seen.reverse.toArray clk) w := by simp [getObj, Sem.run, hit]
    have hgm := jM (P := P) hm
    obtain ⟨y, hy, h1, h2⟩ := Gx he hrel
    have hf : ms.toArray.find? (·.born == n) = some y := by simpa using hy
    have hl := Xr hn
    refine ⟨.tuple #[y.key, y.val], ?_, _, rfl, _, _, rfl, h1, _, _, rfl, h2, rfl⟩
    simp only [Instr.entry, Sem.run_bind, Nat.add_zero, hget, Result.andThen_ok, hgm, hl, bne_self_eq_false, Bool.false_eq_true, if_false, hf, Sem.run_pure]
   ·cases h
  ·cases h
 ·cases h
theorem Qt (hI : TOK P I) {xt asd : TypeId} {x v : AV} {ok : Bool} {u : Value} (h : Je I xt asd x ok = some v) (hu : x.Rel β u) : ∃ y, (Instr.typeAssert u xt asd ok).run P w = .ok y w ∧ v.Rel β y := by
 unfold Je at h
 replace h := aA h; obtain ⟨ai, hai, h⟩ := h
 have hok := hI _ _ hai
 obtain ⟨d, hd, hdk⟩ := hok.und
 split at h
 ·cases h
 ·rename_i t a hne
  obtain ⟨y, rfl, hy⟩ := hu
  have hni : ∀ ms, d ≠ .interface ms := fun ms e => by
   subst e
   exact hne hdk.symm
  unfold cnd at h
  split at h
  ·rename_i ht
   have ht := Nat.eq_of_beq_eq_true ht
   subst ht
   simp only [Option.some.injEq] at h
   subst h
   refine ⟨if ok then .tuple #[y, .bool true] else y, ?_, ?_⟩
   ·cases d <;> first | (exact absurd rfl (hni _)) | simp [Instr.typeAssert, run_underlying hd]
   ·cases ok
    ·exact hy
    ·exact ⟨_, rfl, _, _, rfl, hy, _, _, rfl, rfl, rfl⟩
  ·rename_i ht
   have ht : ¬ t = asd := fun e => by subst e; rw [Nat.beq_refl] at ht; cases ht
   split at h
   ·replace h := aA h; obtain ⟨z, hz, h⟩ := h
    simp only [Option.some.injEq] at h
    subst h
    obtain ⟨zv, hzr, iP⟩ := xR (w := w) (β := β) hok hz
    refine ⟨.tuple #[zv, .bool false], ?_, _, rfl, _, _, rfl, iP, _, _, rfl, rfl, rfl⟩
    cases d <;> first | (exact absurd rfl (hni _)) | simp [Instr.typeAssert, run_underlying hd, ht, hzr]
   ·cases h
 ·rename_i hne
  have hni : ∀ ms, d ≠ .interface ms := fun ms e => by
   subst e
   exact hne hdk.symm
  simp only [AV.Rel] at hu
  subst hu
  split at h
  ·replace h := aA h; obtain ⟨z, hz, h⟩ := h
   simp only [Option.some.injEq] at h
   subst h
   obtain ⟨zv, hzr, iP⟩ := xR (w := w) (β := β) hok hz
   refine ⟨.tuple #[zv, .bool false], ?_, _, rfl, _, _, rfl, iP, _, _, rfl, rfl, rfl⟩
   cases d <;> first | (exact absurd rfl (hni _)) | simp [Instr.typeAssert, run_underlying hd, hzr]
  ·cases h
 ·cases h
theorem Lp (hI : TOK P I) (hW : aL lo β A w) {b : Builtin} {ts : Array TypeId} {ty : TypeId} {cs : Array Bool} {xs : List AV} {us : List Value} {v : AV} {A' : W} (h : Dk lo I A b ts.toList xs = some (v, A')) (hu : AV.aF β xs us) :
  ∃ y β' w', (builtin b ts ty cs us.toArray).run P w = .ok (.value y) w' ∧ Go lo β A w β' A' w' ∧ v.Rel β' y := by
 have wrap : ∀ {s : Sem Value}, (builtin b ts ty cs us.toArray) = (do pure (.value (<- s))) -> Gives P lo β A w s v A' -> ∃ y β' w', (builtin b ts ty cs us.toArray).run P w = .ok (.value y) w' ∧ Go lo β A w β' A' w' ∧ v.Rel β' y := fun {s} he ⟨y, β', w', hr, hg, hv⟩ => ⟨y, β', w', by rw [he]; simp [hr], hg, hv⟩
 unfold Dk at h
 split at h
 ·rename_i t x hts
  replace h := aA h; obtain ⟨r, hr, h⟩ := h
  simp only [Option.some.injEq, Prod.mk.injEq] at h
  obtain ⟨rfl, rfl⟩ := h
  obtain ⟨u, us', rfl, h1, h2⟩ := hu
  simp only [AV.aF] at h2
  subst h2
  have : ts = #[t] := Array.toList_inj.1 hts
  subst this
  exact wrap rfl (Gives.pure hW (Zx hI hW hr h1))
 ·rename_i t tx s x hts
  obtain ⟨u, us', rfl, h1, u2, us2, rfl, h2, h3⟩ := hu
  simp only [AV.aF] at h3
  subst h3
  have : ts = #[t, tx] := Array.toList_inj.1 hts
  subst this
  split at h
  ·exact wrap rfl (Lm hI hW h h1 h2)
  ·exact wrap rfl (Qr hI hW h h1 h2)
 ·rename_i t x hts
  replace h := aA h; obtain ⟨r, hr, h⟩ := h
  simp only [Option.some.injEq, Prod.mk.injEq] at h
  obtain ⟨rfl, rfl⟩ := h
  obtain ⟨u, us', rfl, h1, h2⟩ := hu
  simp only [AV.aF] at h2
  subst h2
  have : ts = #[t] := Array.toList_inj.1 hts
  subst this
  exact wrap rfl (Gives.pure hW (Zy hI hr h1))
 ·rename_i t tx s x hts
  obtain ⟨u, us', rfl, h1, u2, us2, rfl, h2, h3⟩ := hu
  simp only [AV.aF] at h3
  subst h3
  have : ts = #[t, tx] := Array.toList_inj.1 hts
  subst this
  exact wrap rfl (Xn hI hW h h1 h2)
 ·simp only [Option.some.injEq, Prod.mk.injEq] at h
  obtain ⟨rfl, rfl⟩ := h
  obtain ⟨u, us', rfl, h1, h2⟩ := hu
  simp only [AV.aF] at h2
  subst h2
  simp only [AV.Rel] at h1
  subst h1
  exact wrap rfl (Gives.pure hW ⟨_, rfl, rfl⟩)
 ·simp only [Option.some.injEq, Prod.mk.injEq] at h
  obtain ⟨rfl, rfl⟩ := h
  obtain ⟨u, us', rfl, h1, h2⟩ := hu
  simp only [AV.aF] at h2
  subst h2
  simp only [AV.Rel] at h1
  subst h1
  exact wrap rfl (Gives.pure hW ⟨_, rfl, rfl⟩)
 ·rename_i k x j y
  replace h := aD h; obtain ⟨hk, h⟩ := h
  have hk := of_decide_eq_true hk
  subst hk
  simp only [Option.some.injEq, Prod.mk.injEq] at h
  obtain ⟨rfl, rfl⟩ := h
  obtain ⟨u, us', rfl, h1, u2, us2, rfl, h2, h3⟩ := hu
  simp only [AV.aF] at h3
  subst h3
  simp only [AV.Rel] at h1 h2
  subst h1 h2
  refine wrap rfl (Gives.pure hW ⟨.complex k x y, ?_, rfl⟩)
  show (if k = k then (pure (.complex k x y) : Sem Value) else stuck _).run P w = _
  rw [if_pos rfl]
  rfl
 ·replace h := aA h; obtain ⟨r, hr, h⟩ := h
  simp only [Option.some.injEq, Prod.mk.injEq] at h
  obtain ⟨rfl, rfl⟩ := h
  unfold Ay at hr
  split at hr
  ·obtain ⟨u, us', rfl, h1, u2, us2, rfl, h2, h3⟩ := hu
   simp only [AV.aF] at h3
   subst h3
   simp only [AV.Rel] at h1 h2
   subst h1 h2
   rename_i k x j y
   simp only [cnd, Option.some.injEq] at hr
   subst hr
   refine wrap rfl (Gives.pure hW ⟨.int k (if y > x then y else x), by simp [Builtin.max_, Builtin.max2], ?_⟩)
   by_cases hlt : x < y
   ·simp [hlt, AV.Rel]
   ·simp [hlt, AV.Rel]
  ·cases hr
 ·replace h := aA h; obtain ⟨r, hr, h⟩ := h
  simp only [Option.some.injEq, Prod.mk.injEq] at h
  obtain ⟨rfl, rfl⟩ := h
  unfold Ay at hr
  split at hr
  ·obtain ⟨u, us', rfl, h1, u2, us2, rfl, h2, h3⟩ := hu
   simp only [AV.aF] at h3
   subst h3
   simp only [AV.Rel] at h1 h2
   subst h1 h2
   rename_i k x j y
   simp only [cnd, Option.some.injEq] at hr
   subst hr
   refine wrap rfl (Gives.pure hW ⟨.int k (if y < x then y else x), by simp [Builtin.min_, Builtin.min2], ?_⟩)
   by_cases hlt : y < x
   ·simp [hlt, AV.Rel]
   ·simp [hlt, AV.Rel]
  ·cases hr
 ·cases h
theorem Ji (he : kW β evf ρ) {xs : Array Operand} {l : List AV} (h : avs evf xs.toList = some l) : AV.aF β l (xs.map ρ).toList := by
 rw [Array.toList_map]
 exact Dr he h
theorem Dw (he : kW β evf ρ) {x : Option Operand} {a : Option AV} (h : aOp.opt evf x = some a) : iG β a (x.map ρ) := by
 unfold aOp.opt at h
 split at h
 ·simp only [Option.some.injEq] at h; subst h; rfl
 ·replace h := aA h; obtain ⟨v, hv, h⟩ := h
  simp only [Option.some.injEq] at h
  subst h
  exact ⟨_, rfl, he _ _ hv⟩
def rW (P : Program) (lo : Nat) (β : Bt) (A : W) (w : World) (s : Sem Next) (v : AV) (A' : W) : Prop :=
 ∃ n y β' w', s.run P w = .ok n w' ∧ (n = .value y ∨ (n = .skip ∧ y = undef)) ∧ Go lo β A w β' A' w' ∧ v.Rel β' y
theorem rW.gives {s : Sem Value} {v : AV} {A' : W} (h : Gives P lo β A w s v A') : rW P lo β A w (do pure (Next.value (<- s))) v A' := by
 obtain ⟨y, β', w', hr, hg, hv⟩ := h
 exact ⟨.value y, y, β', w', by simp [hr], .inl rfl, hg, hv⟩
theorem rW.val (hW : aL lo β A w) {s : Sem Value} {v : AV} (h : ∃ y, s.run P w = .ok y w ∧ v.Rel β y) : rW P lo β A w (do pure (Next.value (<- s))) v A := .gives (Gives.pure hW h)
theorem rW.unit {s : Sem Unit} {A' : W} (h : ∃ w', s.run P w = .ok () w' ∧ Go lo β A w β A' w') : rW P lo β A w (do s; pure Next.skip) (.tu []) A' := by
 obtain ⟨w', hr, hg⟩ := h
 exact ⟨.skip, undef, β, w', by simp [hr], .inr ⟨rfl, rfl⟩, hg, [], rfl, rfl⟩
theorem zCk (hI : TOK P I) (hW : aL lo β A w) (he : kW β evf ρ) {o : Oper} {v : AV} {A' : W} (h : aOp P lo I evf A o.op = some (v, A')) : rW P lo β A w (execOp ρ o) v A' := by
 unfold aOp at h
 split at h
 ·rename_i x ho
  replace h := aA h; obtain ⟨a, ha, h⟩ := h
  simp only [Option.some.injEq, Prod.mk.injEq] at h
  obtain ⟨rfl, rfl⟩ := h
  exact ⟨_, _, β, w, by simp only [execOp, ho]; rfl, .inl rfl, .refl hW, he _ _ ha⟩
 ·rename_i x ho
  replace h := aA h; obtain ⟨a, ha, h⟩ := h
  simp only [Option.some.injEq, Prod.mk.injEq] at h
  obtain ⟨rfl, rfl⟩ := h
  exact ⟨_, _, β, w, by simp only [execOp, ho]; rfl, .inl rfl, .refl hW, he _ _ ha⟩
 ·rename_i c x y ho
  replace h := aA h; obtain ⟨cv, hc, h⟩ := h
  split at h
  ·replace h := aA h; obtain ⟨a, ha, h⟩ := h
   simp only [Option.some.injEq, Prod.mk.injEq] at h
   obtain ⟨rfl, rfl⟩ := h
   have := he _ _ hc
   simp only [AV.Rel] at this
   exact ⟨_, _, β, w, by simp only [execOp, ho, this, asBool]; rfl, .inl rfl, .refl hW, he _ _ ha⟩
  ·replace h := aA h; obtain ⟨a, ha, h⟩ := h
   simp only [Option.some.injEq, Prod.mk.injEq] at h
   obtain ⟨rfl, rfl⟩ := h
   have := he _ _ hc
   simp only [AV.Rel] at this
   exact ⟨_, _, β, w, by simp only [execOp, ho, this, asBool]; rfl, .inl rfl, .refl hW, he _ _ ha⟩
  ·cases h
 ·rename_i e ho
  replace h := aA h; obtain ⟨ei, hei, h⟩ := h
  replace h := aA h; obtain ⟨A1, hA, h⟩ := h
  simp only [Option.some.injEq, Prod.mk.injEq] at h
  obtain ⟨rfl, rfl⟩ := h
  simp only [execOp, ho]
  exact .gives (Xl hI hW hei hA)
 ·rename_i e x ho
  replace h := aA h; obtain ⟨a, ha, h⟩ := h
  replace h := aD h; obtain ⟨h1, h⟩ := h
  replace h := aA h; obtain ⟨A1, hA, h⟩ := h
  simp only [Option.some.injEq, Prod.mk.injEq] at h
  obtain ⟨rfl, rfl⟩ := h
  simp only [execOp, ho]
  exact .gives (zCi hW (he _ _ ha) h1 hA)
 ·rename_i t ps ho
  replace h := aA h; obtain ⟨a, ha, h⟩ := h
  simp only [Option.some.injEq, Prod.mk.injEq] at h
  obtain ⟨rfl, rfl⟩ := h
  simp only [execOp, ho]
  have := Tj (w := w) hI he ha
  rw [<- Array.toList_map, Array.toArray_toList] at this
  exact .val hW this
 ·rename_i t n ps ho
  simp only [execOp, ho]
  have := Dt hI hW he h
  rw [<- Array.toList_map, Array.toArray_toList] at this
  exact .gives this
 ·rename_i t x ho
  replace h := aA h; obtain ⟨a, ha, h⟩ := h
  replace h := aA h; obtain ⟨b, hb, h⟩ := h
  simp only [Option.some.injEq, Prod.mk.injEq] at h
  obtain ⟨rfl, rfl⟩ := h
  simp only [execOp, ho]
  exact .val hW (Gl hI hW hb (he _ _ ha))
 ·rename_i t x y ho
  replace h := aA h; obtain ⟨a, ha, h⟩ := h
  replace h := aA h; obtain ⟨b, hb, h⟩ := h
  replace h := aA h; obtain ⟨A1, hA, h⟩ := h
  simp only [Option.some.injEq, Prod.mk.injEq] at h
  obtain ⟨rfl, rfl⟩ := h
  simp only [execOp, ho]
  exact .unit (Td hI hW hA (he _ _ ha) (he _ _ hb))
 ·rename_i x ho
  replace h := aA h; obtain ⟨a, ha, h⟩ := h
  replace h := aD h; obtain ⟨h1, h⟩ := h
  simp only [Option.some.injEq, Prod.mk.injEq] at h
  obtain ⟨rfl, rfl⟩ := h
  have hr := he _ _ ha
  unfold zDi at h1
  split at h1
  ·have hr0 := hr
   obtain ⟨_, _, _, _, e⟩ := hr
   exact ⟨.value (ρ x), ρ x, β, w, by simp only [execOp, ho, e]; rfl, .inl rfl, .refl hW, hr0⟩
  ·have hr0 := hr
   obtain ⟨_, _, e, _⟩ := hr
   exact ⟨.value (ρ x), ρ x, β, w, by simp only [execOp, ho, e]; rfl, .inl rfl, .refl hW, hr0⟩
  ·have hr0 := hr
   obtain ⟨_, e, _⟩ := hr
   exact ⟨.value (ρ x), ρ x, β, w, by simp only [execOp, ho, e]; rfl, .inl rfl, .refl hW, hr0⟩
  ·cases h1
 ·rename_i op t x y yt ho
  replace h := aA h; obtain ⟨a, ha, h⟩ := h
  replace h := aA h; obtain ⟨b, hb, h⟩ := h
  replace h := aA h; obtain ⟨r, hr, h⟩ := h
  simp only [Option.some.injEq, Prod.mk.injEq] at h
  obtain ⟨rfl, rfl⟩ := h
  simp only [execOp, ho]
  exact .val hW (Zw hI hr (he _ _ ha) (he _ _ hb))
 ·rename_i op t x ho
  replace h := aA h; obtain ⟨a, ha, h⟩ := h
  replace h := aA h; obtain ⟨r, hr, h⟩ := h
  simp only [Option.some.injEq, Prod.mk.injEq] at h
  obtain ⟨rfl, rfl⟩ := h
  simp only [execOp, ho]
  exact .val hW (zCg hr (he _ _ ha))
 ·rename_i s d x ho
  replace h := aA h; obtain ⟨a, ha, h⟩ := h
  simp only [execOp, ho]
  exact .gives (Xi hI hW h (he _ _ ha))
 ·rename_i t x ho
  replace h := aA h; obtain ⟨a, ha, h⟩ := h
  replace h := aA h; obtain ⟨ti, hti, h⟩ := h
  replace h := aD h; obtain ⟨h1, h⟩ := h
  simp only [Option.some.injEq, Prod.mk.injEq] at h
  obtain ⟨rfl, rfl⟩ := h
  simp only [execOp, ho]
  obtain ⟨d, hd, hdk⟩ := (hI _ _ hti).und
  refine .val hW ⟨.iface t (ρ x), ?_, _, rfl, he _ _ ha⟩
  rw [<- hdk] at h1
  cases d <;> first | (simp [CK.of, Qk] at h1; done) | simp [Instr.makeInterface, run_underlying hd]
 ·rename_i f fs cs ho
  replace h := aA h; obtain ⟨a, ha, h⟩ := h
  replace h := aA h; obtain ⟨b, hb, h⟩ := h
  simp only [Option.some.injEq, Prod.mk.injEq] at h
  obtain ⟨rfl, rfl⟩ := h
  simp only [execOp, ho]
  exact .val hW ⟨.func f (fs.map ρ) (cs.map ρ), rfl, (fs.map ρ).toList, (cs.map ρ).toList, by rw [Array.toArray_toList, Array.toArray_toList], Ji he ha, Ji he hb⟩
 ·rename_i t ho
  replace h := aA h; obtain ⟨A1, hA, h⟩ := h
  simp only [Option.some.injEq, Prod.mk.injEq] at h
  obtain ⟨rfl, rfl⟩ := h
  simp only [execOp, ho, Option.map_none]
  exact .gives (Qq hW hA)
 ·rename_i t l c ho
  replace h := aA h; obtain ⟨a, ha, h⟩ := h
  replace h := aA h; obtain ⟨b, hb, h⟩ := h
  simp only [execOp, ho]
  exact .gives (Gr hI hW h (he _ _ ha) (he _ _ hb))
 ·rename_i t x l hh m ho
  replace h := aA h; obtain ⟨a, ha, h⟩ := h
  replace h := aA h; obtain ⟨b, hb, h⟩ := h
  replace h := aA h; obtain ⟨c, hc, h⟩ := h
  replace h := aA h; obtain ⟨d, hd, h⟩ := h
  replace h := aA h; obtain ⟨r, hr, h⟩ := h
  simp only [Option.some.injEq, Prod.mk.injEq] at h
  obtain ⟨rfl, rfl⟩ := h
  simp only [execOp, ho]
  exact .val hW (Tf hI hW hr (he _ _ ha) (Dw he hb) (Dw he hc) (Dw he hd))
 ·rename_i t x f ho
  replace h := aA h; obtain ⟨a, ha, h⟩ := h
  replace h := aA h; obtain ⟨r, hr, h⟩ := h
  simp only [Option.some.injEq, Prod.mk.injEq] at h
  obtain ⟨rfl, rfl⟩ := h
  simp only [execOp, ho]
  exact .val hW (Gp hI hr (he _ _ ha))
 ·rename_i t x f ho
  replace h := aA h; obtain ⟨a, ha, h⟩ := h
  replace h := aA h; obtain ⟨r, hr, h⟩ := h
  simp only [Option.some.injEq, Prod.mk.injEq] at h
  obtain ⟨rfl, rfl⟩ := h
  simp only [execOp, ho]
  exact .val hW (Tg hI hr (he _ _ ha))
 ·rename_i t x i ho
  replace h := aA h; obtain ⟨a, ha, h⟩ := h
  replace h := aA h; obtain ⟨b, hb, h⟩ := h
  replace h := aA h; obtain ⟨r, hr, h⟩ := h
  simp only [Option.some.injEq, Prod.mk.injEq] at h
  obtain ⟨rfl, rfl⟩ := h
  simp only [execOp, ho]
  exact .val hW (Gq hI hr (he _ _ ha) (he _ _ hb))
 ·rename_i t x i ho
  replace h := aA h; obtain ⟨a, ha, h⟩ := h
  replace h := aA h; obtain ⟨b, hb, h⟩ := h
  replace h := aA h; obtain ⟨r, hr, h⟩ := h
  simp only [Option.some.injEq, Prod.mk.injEq] at h
  obtain ⟨rfl, rfl⟩ := h
  simp only [execOp, ho]
  exact .val hW (Ti hI hr (he _ _ ha) (he _ _ hb))
 ·rename_i t x i ok ho
  replace h := aA h; obtain ⟨a, ha, h⟩ := h
  replace h := aA h; obtain ⟨b, hb, h⟩ := h
  replace h := aA h; obtain ⟨r, hr, h⟩ := h
  simp only [Option.some.injEq, Prod.mk.injEq] at h
  obtain ⟨rfl, rfl⟩ := h
  simp only [execOp, ho]
  exact .val hW (Qs hI hW hr (he _ _ ha) (he _ _ hb))
 ·rename_i t m k x ho
  replace h := aA h; obtain ⟨a, ha, h⟩ := h
  replace h := aA h; obtain ⟨b, hb, h⟩ := h
  replace h := aA h; obtain ⟨c, hc, h⟩ := h
  replace h := aA h; obtain ⟨A1, hA, h⟩ := h
  simp only [Option.some.injEq, Prod.mk.injEq] at h
  obtain ⟨rfl, rfl⟩ := h
  simp only [execOp, ho]
  exact .unit (Aa hI hW hA (he _ _ ha) (he _ _ hb) (he _ _ hc))
 ·rename_i t m k x ho
  replace h := aA h; obtain ⟨a, ha, h⟩ := h
  replace h := aA h; obtain ⟨b, hb, h⟩ := h
  replace h := aA h; obtain ⟨c, hc, h⟩ := h
  replace h := aA h; obtain ⟨A1, hA, h⟩ := h
  simp only [Option.some.injEq, Prod.mk.injEq] at h
  obtain ⟨rfl, rfl⟩ := h
  simp only [execOp, ho]
  exact .unit (Aa hI hW hA (he _ _ ha) (he _ _ hb) (he _ _ hc))
 ·rename_i t m k ho
  replace h := aA h; obtain ⟨a, ha, h⟩ := h
  replace h := aA h; obtain ⟨b, hb, h⟩ := h
  simp only [execOp, ho]
  exact .gives (Jh hI hW h (he _ _ ha) (he _ _ hb))
 ·rename_i t m s x ho
  replace h := aA h; obtain ⟨a, ha, h⟩ := h
  replace h := aA h; obtain ⟨b, hb, h⟩ := h
  replace h := aA h; obtain ⟨c, hc, h⟩ := h
  replace h := aA h; obtain ⟨A1, hA, h⟩ := h
  simp only [Option.some.injEq, Prod.mk.injEq] at h
  obtain ⟨rfl, rfl⟩ := h
  simp only [execOp, ho]
  exact .unit (Dv hW hA (he _ _ ha) (he _ _ hb) (he _ _ hc))
 ·rename_i t x ho
  replace h := aA h; obtain ⟨a, ha, h⟩ := h
  simp only [execOp, ho]
  exact .gives (Tm hI hW h (he _ _ ha))
 ·rename_i x b ho
  replace h := aA h; obtain ⟨a, ha, h⟩ := h
  simp only [execOp, ho]
  exact .gives (Xq hW h (he _ _ ha))
 ·rename_i x ho
  replace h := aA h; obtain ⟨a, ha, h⟩ := h
  replace h := aA h; obtain ⟨r, hr, h⟩ := h
  simp only [Option.some.injEq, Prod.mk.injEq] at h
  obtain ⟨rfl, rfl⟩ := h
  simp only [execOp, ho]
  exact .val hW (Tn hW hr (he _ _ ha))
 ·rename_i x xt asd ok ho
  replace h := aA h; obtain ⟨a, ha, h⟩ := h
  replace h := aA h; obtain ⟨r, hr, h⟩ := h
  simp only [Option.some.injEq, Prod.mk.injEq] at h
  obtain ⟨rfl, rfl⟩ := h
  simp only [execOp, ho]
  exact .val hW (Qt hI hr (he _ _ ha))
 ·rename_i x i ho
  replace h := aA h; obtain ⟨a, ha, h⟩ := h
  split at h
  ·rename_i l
   replace h := aA h; obtain ⟨r, hr, h⟩ := h
   simp only [Option.some.injEq, Prod.mk.injEq] at h
   obtain ⟨rfl, rfl⟩ := h
   simp only [execOp, ho]
   obtain ⟨vs, e, hvs⟩ := he _ _ ha
   rw [Ql] at hr
   obtain ⟨y, hy, hrel⟩ := hvs.get hr
   exact .val hW ⟨y, by simp [Instr.extract, e, hy], hrel⟩
  ·cases h
 ·rename_i b args ts ho
  replace h := aA h; obtain ⟨xs, hxs, h⟩ := h
  obtain ⟨y, β', w', hr, hg, hv⟩ := Lp (ty := o.type) (cs := args.map fun | .const _ => true | _ => false) hI hW h (Ji he hxs)
  refine ⟨.value y, y, β', w', ?_, .inl rfl, hg, hv⟩
  rw [Array.toArray_toList] at hr
  simp only [execOp, ho, resolve, Sem.run_bind, Sem.run_pure, Result.andThen_ok, invoke]
  exact hr
 ·cases h
end
end Go.Ce
namespace Go.Ce
structure cK (β : Bt) (n : Nat) (tm : T AV) (a : Act) : Prop where
 size : a.tmps.size = n
 get : ∀ t v, tm.get t = some v -> t < n ∧ v.Rel β (a.tmps.getD t undef)
theorem cK.mono {β β' : Bt} {n : Nat} {tm : T AV} {a : Act} (h : cK β n tm a) (hl : Le β β') : cK β' n tm a := ⟨h.size, fun t v hv => ⟨(h.get t v hv).1, (h.get t v hv).2.mono hl⟩⟩
theorem Ms {β : Bt} {tm : T AV} {a : Act} (h : ∀ t v, tm.get t = some v -> v.Rel β (a.tmps.getD t undef)) : kW β (ev tm) a.eval := fun x v hx => by
 cases x with
 | tmp t => exact h t v hx
 | const c => exact (Qn hx β).1
 | func f => simp only [ev, Option.some.injEq] at hx; subst hx; exact ⟨[], [], rfl, rfl, rfl⟩
 | global g => simp [ev] at hx
theorem cK.ev {β : Bt} {n : Nat} {tm : T AV} {a : Act} (h : cK β n tm a) : kW β (ev tm) a.eval := Ms fun t v hv => (h.get t v hv).2
theorem lN {β : Bt} {n : Nat} {tm tm' : T AV} {a : Act} {d : Option Tmp} {v : AV} {y : Value} (h : dI n tm d v = some tm') (hf : cK β n tm a) (hv : v.Rel β y) : cK β n tm' (a.put d y) := by
 cases d with
 | none =>
  simp only [dI, Option.some.injEq] at h
  subst h
  exact hf
 | some d =>
  simp only [dI] at h
  obtain ⟨hc, h⟩ := aD h
  simp only [Option.some.injEq] at h
  subst h
  rw [Bool.and_eq_true, Nat.blt_eq, Nat.blt_eq] at hc
  refine ⟨by simp [Act.put, hf.size], fun t u hu => ?_⟩
  by_cases ht : t = d
  ·subst ht
   rw [T.bE _ hc.2] at hu
   simp only [Option.some.injEq] at hu
   subst hu
   refine ⟨hc.1, ?_⟩
   have : t < a.tmps.size := by rw [hf.size]; exact hc.1
   simpa [Act.put, Array.getD_eq_getD_getElem?, this] using hv
  ·rw [T.aI _ ht] at hu
   obtain ⟨h1, h2⟩ := hf.get t u hu
   refine ⟨h1, ?_⟩
   have : (a.put (some d) y).tmps.getD t undef = a.tmps.getD t undef := by
    simp [Act.put, Array.getD_eq_getD_getElem?, Array.getElem?_setIfInBounds, Ne.symm ht]
   rw [this]; exact h2
theorem put_defers (a : Act) (d : Option Tmp) (y : Value) : (a.put d y).defers = a.defers := by cases d <;> rfl
def rG (β : Bt) : Out -> Ending -> Prop
 | .ret v, e => ∃ y, e = .returned y ∧ v.Rel β y
 | .pan t v, e => ∃ y, e = .panicked [{ v := .iface t y, recovered := false }] ∧ v.Rel β y
def dH (β : Bt) : Ex -> Exit -> Prop
 | .normal, x => x = .normal
 | .exit i, x => x = .exit i
 | .goto l, x => x = .goto l
 | .ret, x => x = .ret
 | .pan t v, x => ∃ y, x = .panic [{ v := .iface t y, recovered := false }] ∧ v.Rel β y
def bD (P : Program) (lo : Nat) (f : FuncId) (args : List AV) (A : W) (out : Out) (A' : W) : Prop :=
 ∀ (β : Bt) (w : World) (xs : List Value), aL lo β A w -> AV.aF β args xs ->
  ((callFunc f xs.toArray).run P w = .ok (.enter f xs.toArray) w ∧ Calls P f xs.toArray w fun e w' => ∃ β', Go lo β A w β' A' w' ∧ rG β' out e) ∨
  (∃ v y β' w', out = .ret v ∧ (callFunc f xs.toArray).run P w = .ok (.value y) w' ∧ Go lo β A w β' A' w' ∧ v.Rel β' y)
def vL (P : Program) (lo : Nat) (f : FuncId) (args : List AV) (A : W) (out : Out) (A' : W) : Prop :=
 ∀ (β : Bt) (w : World) (xs : List Value), aL lo β A w -> AV.aF β args xs ->
  (callFunc f xs.toArray).run P w = .ok (.enter f xs.toArray) w ∧ Calls P f xs.toArray w fun e w' => ∃ β', Go lo β A w β' A' w' ∧ rG β' out e
theorem vL.call {P : Program} {lo : Nat} {f : FuncId} {args : List AV} {A : W} {out : Out} {A' : W} (h : vL P lo f args A out A') : bD P lo f args A out A' := fun β w xs hW hr => .inl (h β w xs hW hr)
def Ab (t : TypeId) (z : AV) : Out -> Prop
 | .ret v => v = .tu []
 | .pan t' v => t' = t ∧ shp z v = true
structure bV (E : Env) : Prop where
 I : TOK E.P E.I
 F : ∀ f fn, E.F.get f = some fn -> E.P.funcs[f]? = some fn ∧ (fn.name == "runtime.NumGoroutine") = false
 giv : ∀ f g, E.giv f = some g -> ∀ lo A args v A', g lo A args = some (v, A') -> bD E.P lo f args A (.ret v) A'
 tri : ∀ f t z, E.tri f = some (t, z) -> ∀ lo g fs cs A out A', vL E.P lo g (fs ++ cs) A out A' -> Ab t z out -> bD E.P lo f [.fn (.func g) fs cs] A (.ret (match out with | .ret _ => z | .pan _ v => v)) A'
 mixed : E.P.follows .mixedOrders = true
def jE (E : Env) (ih : Runs) : Prop := ∀ n lo sc c tm A ex tm' A', ih n lo sc c tm A = some (ex, tm', A') -> ∀ (β : Bt) (w : World) (a : Act), aL lo β A w -> cK β n tm a ->
 match sc with
 | .pl => c.wp E.P (fun x a' w' => ∃ β', Go lo β A w β' A' w' ∧ cK β' n tm' a' ∧ dH β' ex x ∧ a'.defers = a.defers) a w
 | .sc body => ∀ (b : Frame) (k : List Item) (cs : List Frame), ∃ x a' w', (∃ β', Go lo β A w β' A' w' ∧ cK β' n tm' a' ∧ dH β' ex x ∧ a'.defers = a.defers) ∧
   Arrives E.P (lone (b.at a (.code c :: .inScope body :: k)) cs w) b k cs x a' w'
 | .lp body => ∀ (b : Frame) (k : List Item) (cs : List Frame), ∃ x a' w', (∃ β', Go lo β A w β' A' w' ∧ cK β' n tm' a' ∧ dH β' ex x ∧ a'.defers = a.defers) ∧
   Arrives E.P (lone (b.at a (.code c :: .inLoop body :: k)) cs w) b k cs x a' w'
section
variable {E : Env} {ih : Runs} {lo n : Nat} {β : Bt} {A : W} {w : World} {a : Act}
theorem xS : ∀ (l : List AV) (i : Nat) (tm : T AV) (t : Nat), i + l.length < big -> (oL i l tm).get t = if i <= t ∧ t < i + l.length then l[t - i]? else tm.get t
 | [], i, tm, t, _ => by simp [oL]; omega
 | a :: l, i, tm, t, h => by
  simp only [oL]
  rw [xS l (i + 1) _ t (by simp at h; omega)]
  simp only [List.length_cons]
  by_cases h1 : i + 1 <= t ∧ t < i + 1 + l.length
  ·rw [if_pos h1, if_pos (by omega)]
   have : t - i = (t - (i + 1)) + 1 := by omega
   rw [this, List.getElem?_cons_succ]
  ·rw [if_neg h1]
   by_cases h2 : t = i
   ·subst h2
    rw [T.bE _ (by omega), if_pos (by omega)]
    simp
   ·rw [T.aI _ h2, if_neg (by omega)]
def rdV (a : Act) : ResultVar -> Sem Value
 | .tmp t => pure (a.tmps.getD t undef)
 | .cell x t => do loadVar t (<- asAddr (a.tmps.getD x undef))
theorem Gy (hE : bV E) (hW : aL lo β A w) {tm : T AV} (hf : cK β n tm a) : ∀ {rs : List ResultVar} {l : List AV}, jD E tm A rs = some l ->
  ∃ vs : List Value, AV.aF β l vs ∧ ∀ acc : Array Value, (rs.foldlM (fun (acc : Array Value) r => do pure (acc.push (<- rdV a r))) acc : Sem (Array Value)).run E.P w = .ok (acc ++ vs.toArray) w
 | [], l, h => by
  simp only [jD, Option.some.injEq] at h
  subst h
  exact ⟨[], rfl, fun acc => by simp⟩
 | r :: rs, l, h => by
  simp only [jD] at h
  split at h
  ·rename_i v l' h1 h2
   simp only [Option.some.injEq] at h
   subst h
   obtain ⟨vs, hr, hrun⟩ := Gy hE hW hf h2
   have : ∃ y, (rdV a r).run E.P w = .ok y w ∧ v.Rel β y := by
    cases r with
    | tmp t => exact ⟨_, rfl, (hf.get t v h1).2⟩
    | cell x t =>
     simp only [Wq] at h1
     obtain ⟨p, hp, h1⟩ := aA h1
     have hpr := (hf.get x p hp).2
     obtain ⟨y, hy, hyr⟩ := Gl hE.I hW h1 hpr
     refine ⟨y, ?_, hyr⟩
     unfold Gd at h1
     split at h1
     ·obtain ⟨b, o, m, _, e⟩ := hpr
      rw [e] at hy
      simp only [rdV, e]
      simpa [Instr.loadAt, Instr.sureAddr, asAddr] using hy
     ·cases h1
   obtain ⟨y, hy, hyr⟩ := this
   refine ⟨y :: vs, ⟨y, vs, rfl, hyr, hr⟩, fun acc => ?_⟩
   simp only [List.foldlM_cons, Sem.run_bind, hy, Result.andThen_ok, Sem.run_pure]
   rw [hrun]
   simp
  ·cases h
theorem Xt (fn : Func) (a : Act) : results fn a.tmps = (do let vs <- fn.results.mapM (rdV a); pure (if h : vs.size = 1 then vs[0] else .tuple vs)) := by
 unfold results
 congr 1
theorem Ac (hE : bV E) (hW : aL lo β A w) {tm : T AV} (hf : cK β n tm a) {fn : Func} {l : List AV} (h : jD E tm A fn.results.toList = some l) : ∃ y, (results fn a.tmps).run E.P w = .ok y w ∧ (xE l).Rel β y := by
 obtain ⟨vs, hr, hrun⟩ := Gy hE hW hf h
 have hm : (fn.results.mapM (rdV a) : Sem (Array Value)).run E.P w = .ok vs.toArray w := by
  rw [Array.mapM_eq_foldlM, <- Array.foldlM_toList]
  have := hrun #[]
  simp only [bind_pure_comp, Array.empty_append] at this ⊢
  exact this
 refine ⟨if h : vs.toArray.size = 1 then vs.toArray[0] else .tuple vs.toArray, ?_, ?_⟩
 ·rw [Xt]
  simp only [Sem.run_bind, hm, Result.andThen_ok, Sem.run_pure]
 ·match l, vs, hr with
  | [], _, hr => simp only [AV.aF] at hr; subst hr; exact ⟨[], rfl, rfl⟩
  | [x], vs, hr =>
   obtain ⟨y, ys, rfl, h1, h2⟩ := hr
   simp only [AV.aF] at h2
   subst h2
   simpa [xE] using h1
  | x :: x2 :: l, vs, hr =>
   obtain ⟨y, ys, rfl, h1, y2, ys2, rfl, h2, h3⟩ := hr
   exact ⟨y :: y2 :: ys2, by simp, y, _, rfl, h1, y2, _, rfl, h2, h3⟩
theorem xU (hE : bV E) (hih : jE E ih) {f : FuncId} {args : List AV} {out : Out} {A' : W} (h : qY E ih lo f args A = some (out, A')) : vL E.P lo f args A out A' := by
 intro β w xs hW hr
 unfold qY at h
 replace h := aA h; obtain ⟨fn, hfn, h⟩ := h
 replace h := aA h; obtain ⟨c, hc, h⟩ := h
 replace h := aD h; obtain ⟨hn, h⟩ := h
 replace h := aA h; obtain ⟨r, hrun, h⟩ := h
 obtain ⟨ex, tm', A1⟩ := r
 obtain ⟨hF, hname⟩ := hE.F f fn hfn
 rw [Bool.and_eq_true, Nat.ble_eq, Nat.blt_eq, len_eq] at hn
 have hxl := hr.length
 have hfr : cK β fn.ntmps (oL 0 args .nil) { tmps := xs.toArray ++ Array.replicate (fn.ntmps - xs.toArray.size) undef, defers := [] } := by
  refine ⟨by simp; omega, fun t v hv => ?_⟩
  rw [xS _ _ _ _ (by omega)] at hv
  split at hv
  ·rename_i ht
   obtain ⟨y, hy, hyr⟩ := hr.get hv
   refine ⟨by omega, ?_⟩
   have hlt := (List.getElem?_eq_some_iff.1 hy).1
   rw [Nat.sub_zero] at hy hlt
   have : (xs.toArray ++ Array.replicate (fn.ntmps - xs.toArray.size) undef).getD t undef = y := by
    rw [Array.getD_eq_getD_getElem?, Array.getElem?_append_left (by simpa using hlt)]
    simp [hy]
   rw [this]; exact hyr
  ·simp [T.get] at hv
 have hwp := hih _ _ .pl _ _ _ _ _ _ hrun β w _ hW hfr
 refine ⟨?_, calls_of_wp hF hc (wp_mono hwp ?_)⟩
 ·have h1 : fn.body.isNone = false := by rw [hc]; rfl
  simp only [callFunc, Sem.run_bind, run_program, Result.andThen_ok, hF, hname, h1, Bool.false_eq_true, if_false, Sem.run_pure]
 ·rintro x a' w' ⟨β', hgo, hf', hx, hd⟩
  have fin : ∀ l, jD E tm' A1 fn.results.toList = some l -> out = .ret (xE l) -> A1 = A' -> (x = .normal ∨ x = .ret) -> bodyPost E.P fn (fun e w' => ∃ β', Go lo β A w β' A' w' ∧ rG β' out e) x a' w' := fun l hl ho hA hx => by
   subst hA ho
   obtain ⟨y, hy, hyr⟩ := Ac hE hgo.rel hf' hl
   rcases hx with rfl | rfl <;> exact ⟨hd, y, hy, β', hgo, y, rfl, hyr⟩
  cases ex with
  | normal =>
   simp only at h
   replace h := aA h; obtain ⟨l, hl, h⟩ := h
   simp only [Option.some.injEq, Prod.mk.injEq] at h
   exact fin l hl h.1.symm h.2 (.inl hx)
  | ret =>
   simp only at h
   replace h := aA h; obtain ⟨l, hl, h⟩ := h
   simp only [Option.some.injEq, Prod.mk.injEq] at h
   exact fin l hl h.1.symm h.2 (.inr hx)
  | pan t v =>
   simp only [Option.some.injEq, Prod.mk.injEq] at h
   obtain ⟨rfl, rfl⟩ := h
   obtain ⟨y, rfl, hyr⟩ := hx
   exact ⟨hd, β', hgo, y, rfl, hyr⟩
  | exit i => simp at h
  | goto l => simp at h
theorem Gz (hE : bV E) (hih : jE E ih) {f : FuncId} {args : List AV} {out : Out} {A' : W} (h : vF E ih lo f args A = some (out, A')) : bD E.P lo f args A out A' := by
 unfold vF at h
 split at h
 ·rename_i g hg
  replace h := aA h; obtain ⟨r, hr, h⟩ := h
  simp only [Option.some.injEq, Prod.mk.injEq] at h
  obtain ⟨rfl, rfl⟩ := h
  exact hE.giv f g hg lo A args _ _ hr
 ·split at h
  ·rename_i t z ht
   split at h
   ·rename_i g fs cs
    replace h := aA h; obtain ⟨r, hr, h⟩ := h
    have hb := xU hE hih hr
    split at h
    ·rename_i A1
     simp only [Option.some.injEq, Prod.mk.injEq] at h
     obtain ⟨rfl, rfl⟩ := h
     exact hE.tri f t z ht lo g fs cs A _ _ hb rfl
    ·rename_i t' v A1
     replace h := aD h; obtain ⟨hc, h⟩ := h
     simp only [Option.some.injEq, Prod.mk.injEq] at h
     obtain ⟨rfl, rfl⟩ := h
     rw [Bool.and_eq_true] at hc
     exact hE.tri f t z ht lo g fs cs A _ _ hb ⟨(Nat.eq_of_beq_eq_true hc.1).symm, hc.2⟩
    ·cases h
   ·cases h
  ·exact (xU hE hih h).call
theorem uY (hE : bV E) {o : Oper} {x : Operand} {args : Array Operand} {ats : Array TypeId} {f : FuncId} {fs cs xs : List AV} {tm : T AV} {out : Out} {A' : W} {next : Act -> World -> Prop} {Q : Exit -> Act -> World -> Prop}
  (ho : o.op = .call { callee := .value x, args := args, argTypes := ats }) (hW : aL lo β A w) (he : kW β (ev tm) a.eval) (hx : ev tm x = some (.fn (.func f) fs cs)) (hxs : avs (ev tm) args.toList = some xs)
  (hc : bD E.P lo f (fs ++ xs ++ cs) A out A')
  (hn : ∀ v y β' w', out = .ret v -> Go lo β A w β' A' w' -> v.Rel β' y -> next (a.put o.dst y) w')
  (hq : ∀ t v y β' w', out = .pan t v -> Go lo β A w β' A' w' -> v.Rel β' y -> Q (.panic [{ v := .iface t y, recovered := false }]) a w') : o.wp E.P a w next Q := by
 obtain ⟨first, caps, e, h1, h2⟩ := he x _ hx
 have h3 := Dr he hxs
 have hargs : AV.aF β (fs ++ xs ++ cs) (first ++ args.toList.map a.eval ++ caps) := (h1.append h3).append h2
 have hres : (execOp a.eval o) = callFunc f (first ++ args.toList.map a.eval ++ caps).toArray := by
  simp only [execOp, ho, resolve, e, Deferred.ofValue]
  show (invoke (.fn (.func f) caps.toArray) (first.toArray ++ args.map a.eval) : Sem Next) = _
  simp only [invoke]
  congr 1
  apply Array.ext'
  simp
 unfold Oper.wp
 rw [hres]
 rcases hc β w _ hW hargs with ⟨hcf, zGm⟩ | ⟨v, y, β', w', rfl, hcf, hgo, hv⟩
 ·rw [hcf]
  refine zGm.mono ?_
  rintro e w' ⟨β', hgo, ho⟩
  cases out with
  | ret v =>
   obtain ⟨y, rfl, hy⟩ := ho
   exact hn v y β' w' rfl hgo hy
  | pan t v =>
   obtain ⟨y, rfl, hy⟩ := ho
   exact hq t v y β' w' rfl hgo hy
 ·rw [hcf]
  exact hn v y β' w' rfl hgo hv
theorem Jj (hE : bV E) {o : Oper} {tm : T AV} {v : AV} {A' : W} {next : Act -> World -> Prop} {Q : Exit -> Act -> World -> Prop} (hW : aL lo β A w) (he : kW β (ev tm) a.eval) (h : aOp E.P lo E.I (ev tm) A o.op = some (v, A'))
  (hn : ∀ y β' w', Go lo β A w β' A' w' -> v.Rel β' y -> next (a.put o.dst y) w') : o.wp E.P a w next Q := by
 obtain ⟨n, y, β', w', hr, hv, hgo, hrel⟩ := zCk hE.I hW he h
 unfold Oper.wp
 rw [hr]
 rcases hv with rfl | ⟨rfl, rfl⟩
 ·exact hn y β' w' hgo hrel
 ·exact hn undef β' w' hgo hrel
theorem Dx (hE : bV E) (hih : jE E ih) {o : Oper} {tm : T AV} {v : AV} {A' : W} {next : Act -> World -> Prop} {Q : Exit -> Act -> World -> Prop} (hW : aL lo β A w) (he : kW β (ev tm) a.eval) (h : iO E ih lo o tm A = some (v, A'))
  (hn : ∀ y β' w', Go lo β A w β' A' w' -> v.Rel β' y -> next (a.put o.dst y) w') : o.wp E.P a w next Q := by
 unfold iO at h
 split at h
 ·rename_i x args ats ho
  replace h := aA h; obtain ⟨g, hg, h⟩ := h
  split at h
  ·rename_i f fs cs
   replace h := aA h; obtain ⟨xs, hxs, h⟩ := h
   replace h := aA h; obtain ⟨r, hr, h⟩ := h
   split at h
   ·simp only [Option.some.injEq, Prod.mk.injEq] at h
    obtain ⟨rfl, rfl⟩ := h
    exact uY hE ho hW he hg hxs (Gz hE hih hr) (fun v' y β' w' e hgo hv => by cases e; exact hn y β' w' hgo hv) (fun t v' y β' w' e => by cases e)
   ·cases h
  ·cases h
 ·cases h
 ·exact Jj hE hW he h hn
theorem zCl (hE : bV E) (hih : jE E ih) {o : Oper} {tm tm' : T AV} {ex : Ex} {A' : W} {next : Act -> World -> Prop} {Q : Exit -> Act -> World -> Prop} (hW : aL lo β A w) (hf : cK β n tm a) (h : Gi E ih n lo o tm A = some (ex, tm', A'))
  (hn : ∀ y β' w', ex = .normal -> Go lo β A w β' A' w' -> cK β' n tm' (a.put o.dst y) -> next (a.put o.dst y) w')
  (hq : ∀ t v y β' w', ex = .pan t v -> Go lo β A w β' A' w' -> cK β' n tm' a -> v.Rel β' y -> Q (.panic [{ v := .iface t y, recovered := false }]) a w') : o.wp E.P a w next Q ∧ (ex = .normal ∨ ∃ t v, ex = .pan t v) := by
 unfold Gi at h
 split at h
 ·rename_i x args ats ho
  replace h := aA h; obtain ⟨g, hg, h⟩ := h
  split at h
  ·rename_i f fs cs
   replace h := aA h; obtain ⟨xs, hxs, h⟩ := h
   replace h := aA h; obtain ⟨r, hr, h⟩ := h
   have hc := Gz hE hih hr
   split at h
   ·replace h := aA h; obtain ⟨tm1, htm, h⟩ := h
    simp only [Option.some.injEq, Prod.mk.injEq] at h
    obtain ⟨rfl, rfl, rfl⟩ := h
    refine ⟨uY hE ho hW hf.ev hg hxs hc (fun v' y β' w' e hgo hv => ?_) (fun t v' y β' w' e => by cases e), .inl rfl⟩
    cases e
    exact hn y β' w' rfl hgo (lN htm (hf.mono hgo.ext) hv)
   ·simp only [Option.some.injEq, Prod.mk.injEq] at h
    obtain ⟨rfl, rfl, rfl⟩ := h
    refine ⟨uY hE ho hW hf.ev hg hxs hc (fun v' y β' w' e => by cases e) (fun t v' y β' w' e hgo hv => ?_), .inr ⟨_, _, rfl⟩⟩
    cases e
    exact hq _ _ y β' w' rfl hgo (hf.mono hgo.ext) hv
  ·cases h
 ·rename_i x ho
  replace h := aA h; obtain ⟨g, hg, h⟩ := h
  split at h
  ·rename_i t v
   simp only [Option.some.injEq, Prod.mk.injEq] at h
   obtain ⟨rfl, rfl, rfl⟩ := h
   obtain ⟨y, e, hy⟩ := hf.ev x _ hg
   refine ⟨?_, .inr ⟨_, _, rfl⟩⟩
   unfold Oper.wp
   have : (execOp a.eval o).run E.P w = .halt (.panic (.iface t y)) w := by
    simp [execOp, ho, e, Instr.panic, goPanic, Sem.run]
   rw [this]
   exact hq t v y β w rfl (.refl hW) hf hy
  ·cases h
 ·replace h := aA h; obtain ⟨r, hr, h⟩ := h
  replace h := aA h; obtain ⟨tm1, htm, h⟩ := h
  simp only [Option.some.injEq, Prod.mk.injEq] at h
  obtain ⟨rfl, rfl, rfl⟩ := h
  exact ⟨Jj hE hW hf.ev hr fun y β' w' hgo hv => hn y β' w' rfl hgo (lN htm (hf.mono hgo.ext) hv), .inl rfl⟩
end
end Go.Ce
