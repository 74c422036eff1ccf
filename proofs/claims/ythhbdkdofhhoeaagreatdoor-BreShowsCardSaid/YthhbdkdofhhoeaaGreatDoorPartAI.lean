/- Part of a proof over this seat: a library of my own, and what it says of this seat. No statement is proved here. -/
import Derived.Test.YthhbdkdofhhoeaaGreatDoorPartAH
import Derived.Lib.ConvBytes
import Derived.Lib.AppendStr
import Derived.Laws.BytesArg
namespace Go.Dec
open Go.Lib
def jF (σ : St) (te : Ty) : List (Nat × Operand) -> List te.den -> Option (List te.den)
 | [], xs => some xs
 | (i, x) :: r, xs =>
  match (ovl σ x).leaves with
  | some ls =>
   match bZ te ls with
   | some (y, []) => match Nat.blt i xs.length with
    | true => jF σ te r (xs.set i y)
    | false => none
   | _ => none
  | none => none
def isX (T : Tab) (o : Oper) : Bool :=
 match o.op with
 | .unOp .xor _ _ => true
 | .build t _ => match T.get t with
  | some ti => match ti.k with | .arr .. => true | _ => false
  | none => false
 | .index t _ _ => match T.get t with
  | some ti => match ti.k with | .arr .. => true | _ => false
  | none => false
 | .convert s d _ => match T.get s, T.get d with
  | some ts, some td => match ts.k, td.k with
   | .slice _, .str => true
   | .str, .slice _ => true
   | _, _ => false
  | _, _ => false
 | .field .. => true
 | _ => false
def cZ (ys : List Int) : List UInt8 := ys.map fun n => UInt8.ofNat n.toNat
def yJ (T : Tab) (σ : St) (o : Oper) : Option (Bool × V × List Ob) :=
 match o.op with
 | .unOp .xor _ x => match ovl σ x with
  | .one (.val (.int k) n) => some (true, .one (.val (.int k) (bJ k .xor (if k.signed then -1 else k.max) n)), σ.h)
  | _ => none
 | .build t parts => match T.get t with
  | some ti => match ti.k with
   | .arr n e => match T.get e, ti.zls with
    | some te, [.val (.arr m ty) xs] => if te.size = ty.size ∧ m = n then
      match jF σ ty parts.toList xs with
      | some ys => some (true, .agg [.val (.arr m ty) ys], σ.h)
      | none => none
     else none
    | _, _ => none
   | _ => none
  | none => none
 | .index t x i => match T.get t, ovl σ x, oI (ovl σ i) with
  | some ti, .agg [.val (.arr m ty) xs], some (_, j) => match ti.k with
   | .arr n e => match T.get e with
    | some te => if te.size = ty.size ∧ m = n ∧ te.k.isAgg = ty.isAgg then
      match ty.isAgg with
      | true => some (inB j n, .agg (explode ty (bA ty.dflt xs j)), σ.h)
      | false => some (inB j n, .one (.val ty (bA ty.dflt xs j)), σ.h)
     else none
    | none => none
   | _ => none
  | _, _, _ => none
 | .convert s d x => match T.get s, T.get d, ovl σ x with
  | some ts, some td, .one l => match ts.k, td.k with
   | .slice e, .str => match T.get e with
    | some te => match te.k with
     | .int .u8 => match rowsOf σ.h (.int .u8) l with
      | some (c, ys) => some (c, .one (.val .str (cZ ys)), σ.h)
      | none => none
     | _ => none
    | none => none
   | .str, .slice e => match T.get e, l with
    | some te, .val .str s => match te.k with
     | .int .u8 => some (Nat.ble s.length room, .one (.val (.slice (.int .u8)) (aT s)), σ.h)
     | _ => none
    | _, _ => none
   | _, _ => none
  | _, _, _ => none
 | .field s x f => match T.get s, ovl σ x with
  | some ti, .agg ls => match ti.k with
   | .struct fs => match fs[f]? with
    | some (off, ft) => match T.get ft with
     | some tf => match xC ls off tf.size with
      | some c => match mkV tf.k.isAgg c with
       | some v => some (true, v, σ.h)
       | none => none
      | none => none
     | none => none
    | none => none
   | _ => none
  | _, _ => none
 | _ => none
def kY (T : Tab) (σ : St) (o : Oper) : Option (Bool × V × List Ob) :=
 match isX T o with
 | true => yJ T σ o
 | false => dZ T σ o
theorem Nq {α : Type} {n : Nat} : ∀ (css : List (List α)) (i : Nat) (c : List α), (∀ d ∈ css, d.length = n) -> c.length = n -> i < css.length -> (css.set i c).flatten = css.flatten.take (i * n) ++ c ++ css.flatten.drop (i * n + n)
 | [], i, c, _, _, h => by simp at h
 | d :: css, 0, c, hd, hc, _ => by
  have h1 := hd d (.head _)
  simp only [List.set_cons_zero, List.flatten_cons, Nat.zero_mul, List.take_zero, List.nil_append, Nat.zero_add]
  rw [List.drop_left' h1]
 | d :: css, i + 1, c, hd, hc, h => by
  have h1 := hd d (.head _)
  have ih := Nq css i c (fun e he => hd e (.tail _ he)) hc (by simpa using h)
  simp only [List.set_cons_succ, List.flatten_cons, ih]
  have e1 : (i + 1) * n = d.length + i * n := by rw [h1, Nat.succ_mul]; omega
  rw [e1, List.take_length_add_append, Nat.add_assoc, List.drop_length_add_append]
  simp
section
variable {β : Nat -> Pl} {w : World} {T : Tab} {C : Ctx}
theorem Ho {σ : St} {a : Act} {te : Ty} (hs : Sim C β σ a w) : ∀ {ps : List (Nat × Operand)} {xs ys : List te.den} {css : List (List Value)} {cs : Array Value}, jF σ te ps xs = some ys ->
  aS (fun x c => te.Rel w (C.N β σ.h) x c) xs css -> cs.toList = css.flatten ->
  ∃ (zT : List (List Value)) (cs' : Array Value), Instr.fill (fun i => some (i * te.size, te.size)) cs (ps.map fun p => (p.1, a.eval p.2)) = some cs' ∧ cs'.toList = zT.flatten ∧ aS (fun x c => te.Rel w (C.N β σ.h) x c) ys zT ∧ ys.length = xs.length
 | [], xs, ys, css, cs, h, hr, hc => by
  simp only [jF, Option.some.injEq] at h
  subst h
  exact ⟨css, cs, rfl, hc, hr, rfl⟩
 | (i, x) :: ps, xs, ys, css, cs, h, hr, hc => by
  simp only [jF] at h
  split at h
  ·rename_i ls hls
   split at h
   ·rename_i y hy
    split at h
    ·rename_i hi
     have hi : i < xs.length := Nat.le_of_ble_eq_true hi
     have hx := lM hy (V.uD hls (aY hs x))
     have hl := gP hr
     have hcl : css.length = xs.length := hr.length.symm
     have hlen : (a.eval x).cells.size = te.size := by simpa using hx.length
     have hfl : cs.size = css.length * te.size := by
      have : cs.toList.length = css.flatten.length := by rw [hc]
      rw [bY css hl] at this
      simpa using this
     have hfit : i * te.size + te.size <= cs.size := by
      rw [hfl, <- Nat.succ_mul]; exact Nat.mul_le_mul_right _ (by omega)
     have hset := Nq css i (a.eval x).cells.toList hl (by simpa using hlen) (by omega)
     obtain ⟨zT, cs', h1, h2, h3, h4⟩ := Ho hs (css := css.set i (a.eval x).cells.toList) (cs := (cs.toList.take (i * te.size) ++ (a.eval x).cells.toList ++ cs.toList.drop (i * te.size + te.size)).toArray) h (hr.set i hx) (by rw [hset, hc])
     refine ⟨zT, cs', ?_, h2, h3, by rw [h4, List.length_set]⟩
     rw [List.map_cons, Iw _ cs i (i * te.size) te.size _ _ rfl hlen hfit]
     exact h1
    ·cases h
   ·cases h
  ·cases h
theorem zDm {N : Nat -> Prop} : ∀ {ys : List Int} {css : List (List Value)}, aS (fun x c => (Ty.int .u8).Rel w N x c) ys css -> css.flatten = ys.map (Value.int .u8)
 | [], [], _ => rfl
 | y :: ys, c :: css, h => by
  obtain ⟨h1, h2⟩ := h
  simp only [Ty.Rel] at h1
  subst h1
  simp [zDm h2]
 | [], _ :: _, h => h.elim
 | _ :: _, [], h => h.elim
theorem zKf {P : Program} {N : Nat -> Prop} {t : TypeId} {ti : TI} (h : jE P t ti) {off : Nat} {c : List L} {cs : List Value} {v : V} (hl : aD β w N c ((cs.drop off).take ti.size)) (hs : off + ti.size <= cs.length) (hv : mkV ti.k.isAgg c = some v) :
  ∃ x, (part t cs.toArray off).run P w = .ok x w ∧ v.Rel β w N x := by
 cases ha : ti.k.isAgg with
 | true =>
  rw [ha] at hv
  simp only [mkV, Option.some.injEq] at hv
  subst hv
  refine ⟨.agg (cs.toArray.extract off (off + ti.size)), ?_, ⟨(cs.drop off).take ti.size, ?_, hl⟩⟩
  ·simp only [part, Sem.run_bind, h.isAgg, Result.andThen_ok, ha, if_true, h.sizeOf, Sem.run_pure]
  ·congr 1
   apply Array.toList_inj.1
   simp only [Array.toList_extract, List.extract_eq_take_drop]
   rw [show off + ti.size - off = ti.size by omega]
 | false =>
  rw [ha] at hv
  match c, hv with
  | [l], hv =>
   simp only [mkV, Option.some.injEq] at hv
   subst hv
   have hone : ti.size = 1 := by
    obtain ⟨i, z, _, hsz, _, _, _, hz, hag⟩ := h.i
    rw [ha] at hag
    rw [<- hsz, <- hz]
    cases z <;> first | rfl | simp [Qs] at hag
   rw [hone] at hl hs
   obtain ⟨c1, c2, e, h1, h2⟩ := hl
   simp only [aD] at h2
   subst h2
   rw [List.append_nil] at e
   have hlt : off < cs.length := by omega
   have e2 : (cs.drop off).take 1 = [cs[off]] := by rw [List.drop_eq_getElem_cons hlt]; rfl
   rw [e2] at e
   subst e
   refine ⟨cs[off], ?_, h1⟩
   simp only [part, Sem.run_bind, h.isAgg, Result.andThen_ok, ha, Bool.false_eq_true, if_false, List.getElem?_toArray, List.getElem?_eq_getElem hlt, Sem.run_pure]
theorem zHt {σ : St} {a : Act} {o : Oper} {v : V} {h' : List Ob} (hT : bI C.P T) (hs : Sim C β σ a w) (h : yJ T σ o = some (true, v, h')) : After C β σ a w o v h' := by
  unfold yJ at h
  split at h
  ·
    rename_i _ x ho
    have hx := aY hs x
    split at h
    · rename_i k n hov
      rw [hov] at hx
      simp only [Option.some.injEq, Prod.mk.injEq, true_and] at h
      obtain ⟨rfl, rfl⟩ := h
      simp only [V.Rel, L.Rel, Ty.Rel, List.cons.injEq, and_true] at hx
      refine After.read hs ⟨.int k (bJ k .xor (if k.signed then -1 else k.max) n), ?_, by simp only [V.Rel, L.Rel, Ty.Rel]⟩
      simp only [execOp, ho]
      refine dO ?_
      rw [hx]
      simp only [Op.unary, Op.intBits, bJ, Sem.run_pure]
    · cases h
  ·
    rename_i t parts ho
    split at h
    · rename_i ti hti
      split at h
      · rename_i n e hk
        split at h
        · rename_i tie m ty xs hte hz
          split at h
          · rename_i hc
            obtain ⟨hsz, rfl⟩ := hc
            split at h
            · rename_i ys hys
              simp only [Option.some.injEq, Prod.mk.injEq, true_and] at h
              obtain ⟨rfl, rfl⟩ := h
              have hok := hT _ _ hti
              have hu := hok.arr hk
              obtain ⟨_, z, hi, his, hib, hzz, xU, hzs, zRy⟩ := hok.i
              have hz0 := xU β w (C.N β σ.h)
              rw [hz] at hz0
              obtain ⟨c1, c2, ec, hr, h0⟩ := hz0
              simp only [aD] at h0
              subst h0
              rw [List.append_nil] at ec
              simp only [L.Rel, Ty.Rel] at hr
              obtain ⟨hxl, css, ec1, hall⟩ := hr
              obtain ⟨zT, cs', h1, h2, h3, h4⟩ := Ho hs (cs := z.cells) hys hall (by rw [ec, ec1])
              refine After.read hs ⟨.agg cs', ?_, ?_⟩
              · have hzv : (zeroValue t).run C.P w = .ok z w := by simp [zeroValue, typeInfo, hi, hzz]
                simp only [execOp, ho]
                refine dO ?_
                simp only [Instr.build, Sem.run_bind, hzv, Result.andThen_ok, run_underlying hu, (hT _ _ hte).sizeOf, hsz, Array.toList_map]
                rw [h1]
                rfl
              · exact ⟨cs'.toList, rfl, aD.zNl (by simp only [L.Rel, Ty.Rel]; exact ⟨by rw [h4, hxl], zT, h2, h3⟩)⟩
            · cases h
          · cases h
        · cases h
      · cases h
    · cases h
  ·
    rename_i t x i ho
    split at h
    · rename_i ti m ty xs k j hti hx hi
      split at h
      · rename_i n e hk
        split at h
        · rename_i te hte
          split at h
          · rename_i hc
            obtain ⟨hsz, rfl, hagg⟩ := hc
            have hok := hT _ _ hti
            have hu := hok.arr hk
            have hxr := aY hs x
            rw [hx] at hxr
            obtain ⟨cs, ex, c1, c2, ec, hr, h0⟩ := hxr
            simp only [aD] at h0
            subst h0
            rw [List.append_nil] at ec
            subst ec
            simp only [L.Rel, Ty.Rel] at hr
            obtain ⟨hxl, css, ec1, hall⟩ := hr
            have hl := gP hall
            have iv := iT hi (aY hs i)
            have key : inB j m = true -> ∃ (h2 : j.toNat < xs.length) (h3 : j.toNat < css.length), ty.Rel w (C.N β σ.h) (bA ty.dflt xs j) css[j.toNat] ∧ (cs.drop (j.toNat * ty.size)).take ty.size = css[j.toNat] ∧ 0 <= j ∧ j < (m : Int) ∧ j.toNat * ty.size + ty.size <= cs.length := by
              intro hb
              obtain ⟨g0, g1, g2⟩ := vL hb
              have h2 : j.toNat < xs.length := by omega
              have h3 : j.toNat < css.length := by rw [<- hall.length]; exact h2
              refine ⟨h2, h3, ?_, ?_, g0, g1, ?_⟩
              · have := hall.get j.toNat h2 h3
                simpa [bA, List.getD_eq_getElem?_getD, h2] using this
              · rw [ec1, gN css hl, List.drop_eq_getElem_cons h3, List.flatten_cons, List.take_left' (hl _ (List.getElem_mem h3))]
              · rw [ec1, bY css hl, <- Nat.succ_mul]; exact Nat.mul_le_mul_right _ (by omega)
            obtain ⟨ie, ze, hie, zTr, zTs, zTt, zTk, zTu, zTv⟩ := (hT _ _ hte).i
            have zHu : (isAgg e).run C.P w = .ok te.k.isAgg w := by
              obtain ⟨d, hd, hdk⟩ := (hT _ _ hte).und
              simp only [isAgg, Sem.run_bind, run_underlying hd, Result.andThen_ok, <- hdk]
              cases d <;> rfl
            split at h
            · rename_i hag
              simp only [Option.some.injEq, Prod.mk.injEq] at h
              obtain ⟨hb, rfl, rfl⟩ := h
              obtain ⟨h2, h3, hrel, hcut, g0, g1, g2⟩ := key hb
              refine After.read hs ⟨.agg (cs.toArray.extract (j.toNat * ty.size) (j.toNat * ty.size + ty.size)), ?_, ?_⟩
              · simp only [execOp, ho]
                refine dO ?_
                rw [iv, ex]
                simp only [Instr.index, asIntOf, Sem.run_bind, Sem.run_pure, Result.andThen_ok, run_underlying hu, g0, g1, and_self, if_true, (hT _ _ hte).sizeOf, part, zHu, hagg, hag, hsz]
              · refine ⟨css[j.toNat], ?_, gL hrel⟩
                congr 1
                apply Array.toList_inj.1
                simp only [Array.toList_extract, List.extract_eq_take_drop]
                rw [show j.toNat * ty.size + ty.size - j.toNat * ty.size = ty.size by omega, hcut]
            · rename_i hag
              simp only [Option.some.injEq, Prod.mk.injEq] at h
              obtain ⟨hb, rfl, rfl⟩ := h
              obtain ⟨h2, h3, hrel, hcut, g0, g1, g2⟩ := key hb
              have hone : ty.size = 1 := by cases ty <;> first | rfl | cases hag
              have hcl : css[j.toNat].length = 1 := by rw [hrel.length, hone]
              obtain ⟨u, hu1⟩ : ∃ u, css[j.toNat] = [u] := List.length_eq_one_iff.1 hcl
              rw [hu1, hone, Nat.mul_one] at hcut
              have hget : cs[j.toNat]? = some u := by
                have : (cs.drop j.toNat).take 1 = [u] := hcut
                have h5 : ((cs.drop j.toNat).take 1)[0]? = some u := by rw [this]; rfl
                rw [List.getElem?_take, if_pos (by omega), List.getElem?_drop] at h5
                simpa using h5
              rw [hu1] at hrel
              refine After.read hs ⟨u, ?_, by simp only [V.Rel, L.Rel]; exact hrel⟩
              simp only [execOp, ho]
              refine dO ?_
              rw [iv, ex]
              simp only [Instr.index, asIntOf, Sem.run_bind, Sem.run_pure, Result.andThen_ok, run_underlying hu, g0, g1, and_self, if_true, (hT _ _ hte).sizeOf, part, zHu, hagg, hag, hsz, hone, Nat.mul_one, Bool.false_eq_true, if_false, List.getElem?_toArray, hget]
          · cases h
        · cases h
      · cases h
    · cases h
  ·
    rename_i s d x ho
    split at h
    · rename_i ts td l hts htd hl
      have hx := aY hs x
      rw [hl] at hx
      split at h
      · rename_i e hks hkd
        split at h
        · rename_i te hte
          split at h
          · rename_i hke
            split at h
            · rename_i c ys hys
              simp only [Option.some.injEq, Prod.mk.injEq] at h
              obtain ⟨rfl, rfl, rfl⟩ := h
              have hy := yI hs.heap hys (show l.Rel β w (C.N β σ.h) [a.eval x] from hx)
              have hus := (hT _ _ hts).slice hks
              have hue := (hT _ _ hte).int hke
              have hud := (hT _ _ htd).str hkd
              refine After.read hs ⟨.string ⟨(cZ ys).toArray⟩, ?_, by simp only [V.Rel, L.Rel, Ty.Rel]⟩
              simp only [execOp, ho]
              refine dO ?_
              have fin : ∀ b off cap, a.eval x = .slice (some ⟨b, off, none⟩) ys.length cap -> (∀ j u, (ys.map (Value.int .u8))[j]? = some u -> w.cell? ⟨b, off + j, none⟩ = some u) -> (convert s d (a.eval x)).run C.P w = .ok (.string ⟨(cZ ys).toArray⟩) w := by
                intro b off cap hv hcells
                rw [hv, run_convert_bytes_arg (P := C.P) w s e hus hue b off ys.length cap ys rfl (fun i hi => hcells i _ (by simp [List.getD_eq_getElem?_getD, hi])) d hud]
                simp [strOfNums, cZ]
              rcases hy with ⟨hv, rfl⟩ | ⟨b, off, cap, css, hv, _, hall, hcs⟩ | ⟨a0, cap, hv, rfl⟩
              · rw [hv, run_convert_bytes_nil (P := C.P) w s e hus hue 0 0 d hud]; rfl
              · exact fin b off cap hv (by rw [<- zDm hall]; exact hcs)
              · obtain ⟨b, off, wk⟩ := a0
                rw [hv, run_convert_bytes_string w s d e _ 0 cap hus hue hud]
                simp [Conv.bytesToString, loadCells, loadCellsFrom, cZ]
                rfl
            · cases h
          · cases h
        · cases h
      · rename_i e hks hkd
        split at h
        · rename_i te s0 hte
          split at h
          · rename_i hke
            simp only [Option.some.injEq, Prod.mk.injEq] at h
            obtain ⟨hroom, rfl, rfl⟩ := h
            have hus := (hT _ _ hts).str hks
            have hue := (hT _ _ hte).int hke
            have hud := (hT _ _ htd).slice hkd
            simp only [V.Rel, L.Rel, Ty.Rel, List.cons.injEq, and_true] at hx
            have hroom := Nat.le_of_ble_eq_true hroom
            unfold room at hroom
            let bs : ByteArray := ⟨s0.toArray⟩
            have hbs : bs.size = s0.length := by simp [bs, ByteArray.size]
            have hge := grownCap_ge w bs.size 0 e
            have hcm := grownCap_le_maxLen w bs.size 0 e (by simp only [maxLen]; omega)
            have hkk : Keep (fun _ => False) w (bytesWorld w e bs) := ⟨by rw [bytesWorld_size]; omega, fun b hb _ => bytesWorld_at_old w e bs b hb⟩
            have hrun : (convert s d (a.eval x)).run C.P w = .ok (.slice (some ⟨w.heap.size, 0, none⟩) bs.size (grownCap w bs.size 0 e)) (bytesWorld w e bs) := by
              rw [hx]
              exact Go.Lib.run_convert_string_bytes w s d e bs hus hud hue
            have hN : ∀ b, C.N β σ.h b -> b < w.heap.size := fun b hb => by
              rcases hb with hb | ⟨id, o, ho, _, hbk⟩
              · exact Nat.lt_of_lt_of_le (hs.heap.n0 b hb) hs.heap.size
              · exact (hs.heap.fresh id o b ho hbk).2.1
            have hfr : ∀ (id : Nat) (o : Ob) (b : Nat), σ.h[id]? = some o -> (β id).blk = some b -> (bytesWorld w e bs).heap[b]? = w.heap[b]? := fun id o b ho hb => hkk.block b (hs.heap.fresh id o b ho hb).2.1 (fun h => h)
            refine ⟨β, bytesWorld w e bs, _, .slice (some ⟨w.heap.size, 0, none⟩) bs.size (grownCap w bs.size 0 e), ?_, .inl rfl, Moves.refl β, hkk.weaken fun _ h => h.elim, ?_, ?_⟩
            · simp only [execOp, ho, Sem.run_bind, hrun, Result.andThen_ok, Sem.run_pure]
            · refine ⟨⟨fun id o ho => (hs.heap.obj id o ho).mono (Moves.refl β) (hkk.weaken fun _ h => h.elim) (fun _ _ h => h) fun b hb => hfr id o b ho hb, hs.heap.dead, hs.heap.apart, fun id o b ho hb => ?_, hs.heap.n0, fun b hb hn => ?_, Nat.le_trans hs.heap.size hkk.size, ?_, ?_, ?_, hs.heap.fixed⟩, hs.defers, hs.size, fun i u hu => (hs.reg i u hu).mono (Moves.refl β) (hkk.weaken fun _ h => h.elim) fun _ _ h => h⟩
              · obtain ⟨k1, k2, k3⟩ := hs.heap.fresh id o b ho hb
                exact ⟨k1, Nat.lt_of_lt_of_le k2 hkk.size, k3⟩
              · rw [hkk.block b (Nat.lt_of_lt_of_le hb hs.heap.size) (fun h => h)]
                exact hs.heap.frame b hb hn
              · exact (show (bytesWorld w e bs).os = w.os from rfl).trans hs.heap.os
              · exact (show (bytesWorld w e bs).tape = w.tape from rfl).trans hs.heap.tape
              · exact (show (bytesWorld w e bs).output = w.output from rfl).trans hs.heap.output
            · simp only [V.Rel, L.Rel, Ty.Rel]
              have hsl : (aT s0).length = bs.size := by simp [aT, hbs]
              refine ⟨_, rfl, .inr (.inl ⟨w.heap.size, 0, grownCap w bs.size 0 e, (aT s0).map fun n => [Value.int .u8 n], by rw [hsl], by rw [bytesWorld_size]; omega, fun hn => ?_, by rw [hsl]; exact hge, hcm, ?_, ?_, ?_⟩)⟩
              · have := hN _ hn; omega
              · exact Zh (fun n => by simp only) _
              · intro c hc
                obtain ⟨n, _, rfl⟩ := List.mem_map.1 hc
                rfl
              · intro j u hj
                rw [Nat.zero_add]
                have hj2 : j < s0.length := by
                  have : ((aT s0).map fun n => [Value.int .u8 n]).flatten.length = s0.length := by rw [bY (n := 1) _ (fun c hc => by obtain ⟨n, _, rfl⟩ := List.mem_map.1 hc; rfl)]; simp [aT]
                  rw [<- this]
                  exact (List.getElem?_eq_some_iff.1 hj).1
                have e1 : ((aT s0).map fun n => [Value.int .u8 n]).flatten = (aT s0).map (Value.int .u8) := by
                  generalize aT s0 = l
                  induction l with
                  | nil => rfl
                  | cons a l ih => simp [ih]
                rw [e1] at hj
                rw [bytesWorld_cell w e bs j (by rw [hbs]; exact hj2)]
                simp only [aT, List.map_map, List.getElem?_map, List.getElem?_eq_getElem hj2, Option.map_some, Option.some.injEq, Function.comp] at hj
                simp [bs, List.getD_eq_getElem?_getD, hj2, <- hj]
          · cases h
        · cases h
      · cases h
    · cases h
  ·
    rename_i s x f ho
    have hx := aY hs x
    split at h
    · rename_i ti ls hti hl
      rw [hl] at hx
      split at h
      · rename_i fs hk
        split at h
        · rename_i off ft hf
          split at h
          · rename_i tf htf
            split at h
            · rename_i c hc
              split at h
              · rename_i v0 hv
                simp only [Option.some.injEq, Prod.mk.injEq, true_and] at h
                obtain ⟨rfl, rfl⟩ := h
                obtain ⟨cs, ex, hls⟩ := hx
                obtain ⟨hr, hle⟩ := qG hc hls
                have hok := hT _ _ hti
                have hok2 := hT _ _ htf
                obtain ⟨ff, hu, hfs⟩ := hok.struct hk
                subst hfs
                rw [List.getElem?_map] at hf
                cases hfe : ff.toList[f]? with
                | none => rw [hfe] at hf; cases hf
                | some fe =>
                  rw [hfe] at hf
                  simp only [Option.map_some, Option.some.injEq, Prod.mk.injEq] at hf
                  obtain ⟨rfl, rfl⟩ := hf
                  have zSa : ff[f]? = some fe := by rw [<- Array.getElem?_toList]; exact hfe
                  obtain ⟨u, h1, h2⟩ := zKf (P := C.P) hok2 (off := fe.offset) hr hle hv
                  refine After.read hs ⟨u, ?_, h2⟩
                  simp only [execOp, ho]
                  refine dO ?_
                  rw [ex]
                  simp only [Instr.field, Sem.run_bind, run_underlying hu, Result.andThen_ok, zSa, asAgg, Sem.run_pure]
                  exact h1
              · cases h
            · cases h
          · cases h
        · cases h
      · cases h
    · cases h
  · cases h
where
 aD.zNl {l : L} {cs : List Value} {N : Nat -> Prop} (h : l.Rel β w N cs) : aD β w N [l] cs := ⟨cs, [], by simp, h, rfl⟩
 Zh {γ δ : Type} {R : γ -> δ -> Prop} {f : γ -> δ} (h : ∀ x, R x (f x)) : ∀ l : List γ, aS R l (l.map f)
  | [] => trivial
  | a :: l => ⟨h a, Zh h l⟩
theorem zHv {σ : St} {a : Act} {o : Oper} {v : V} {h' : List Ob} (hT : bI C.P T) (hs : Sim C β σ a w) (h : kY T σ o = some (true, v, h')) : After C β σ a w o v h' := by
 unfold kY at h
 split at h
 ·exact zHt hT hs h
 ·exact zEw hT hs h
end
end Go.Dec
