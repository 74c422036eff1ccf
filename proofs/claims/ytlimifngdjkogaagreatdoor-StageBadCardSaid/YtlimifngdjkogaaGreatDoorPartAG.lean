/- Part of a proof over this seat: a library of my own, and what it says of this seat. No statement is proved here. -/
import Derived.Test.YtlimifngdjkogaaGreatDoorPartAF
import Derived.Lib.ConvBytes
import Derived.Lib.AppendStr
import Derived.Laws.BytesArg
import Derived.Tactics
import Derived.Scope
import Derived.Orders
namespace Go.Dec
open Go.Lib
def fA (σ : St) (te : Ty) : List (Nat × Operand) -> List te.den -> Option (List te.den)
 | [], xs => some xs
 | (i, x) :: r, xs =>
  match (ovl σ x).leaves with
  | some ls =>
   match aW te ls with
   | some (y, []) => match Nat.blt i xs.length with
    | true => fA σ te r (xs.set i y)
    | false => none
   | _ => none
  | none => none
def isX (T : Tab) (o : Oper) : Bool :=
 match o.op with
 | .unOp .xor _ _ => true
 | .build t _ => match T.get t with
  | some ti => match ti.k with | .arr .. => true | _ => false
  | none => false
 | .index t _ _ => match T.get t with
  | some ti => match ti.k with | .arr .. => true | _ => false
  | none => false
 | .convert s d _ => match T.get s, T.get d with
  | some ts, some td => match ts.k, td.k with
   | .slice _, .str => true
   | .str, .slice _ => true
   | _, _ => false
  | _, _ => false
 | .field .. => true
 | _ => false
def rF (ys : List Int) : List UInt8 := ys.map fun n => UInt8.ofNat n.toNat
def qC (T : Tab) (σ : St) (o : Oper) : Option (Bool × V × List Ob) :=
 match o.op with
 | .unOp .xor _ x => match ovl σ x with
  | .one (.val (.int k) n) => some (true, .one (.val (.int k) (sN k .xor (if k.signed then -1 else k.max) n)), σ.h)
  | _ => none
 | .build t parts => match T.get t with
  | some ti => match ti.k with
   | .arr n e => match T.get e, ti.zls with
    | some te, [.val (.arr m ty) xs] => if te.size = ty.size ∧ m = n then
      match fA σ ty parts.toList xs with
      | some ys => some (true, .agg [.val (.arr m ty) ys], σ.h)
      | none => none
     else none
    | _, _ => none
   | _ => none
  | none => none
 | .index t x i => match T.get t, ovl σ x, iV (ovl σ i) with
  | some ti, .agg [.val (.arr m ty) xs], some (_, j) => match ti.k with
   | .arr n e => match T.get e with
    | some te => if te.size = ty.size ∧ m = n ∧ te.k.isAgg = ty.isAgg then
      match ty.isAgg with
      | true => some (inB j n, .agg (explode ty (dP ty.dflt xs j)), σ.h)
      | false => some (inB j n, .one (.val ty (dP ty.dflt xs j)), σ.h)
     else none
    | none => none
   | _ => none
  | _, _, _ => none
 | .convert s d x => match T.get s, T.get d, ovl σ x with
  | some ts, some td, .one l => match ts.k, td.k with
   | .slice e, .str => match T.get e with
    | some te => match te.k with
     | .int .u8 => match rowsOf σ.h (.int .u8) l with
      | some (c, ys) => some (c, .one (.val .str (rF ys)), σ.h)
      | none => none
     | _ => none
    | none => none
   | .str, .slice e => match T.get e, l with
    | some te, .val .str s => match te.k with
     | .int .u8 => some (Nat.ble s.length room, .one (.val (.slice (.int .u8)) (aX s)), σ.h)
     | _ => none
    | _, _ => none
   | _, _ => none
  | _, _, _ => none
 | .field s x f => match T.get s, ovl σ x with
  | some ti, .agg ls => match ti.k with
   | .struct fs => match fs[f]? with
    | some (off, ft) => match T.get ft with
     | some tf => match oG ls off tf.size with
      | some c => match mkV tf.k.isAgg c with
       | some v => some (true, v, σ.h)
       | none => none
      | none => none
     | none => none
    | none => none
   | _ => none
  | _, _ => none
 | _ => none
def gD (T : Tab) (σ : St) (o : Oper) : Option (Bool × V × List Ob) :=
 match isM o with
 | true => stepM T σ o
 | false =>
  match isX T o with
  | true => qC T σ o
  | false => bT T σ o
theorem Bw {α : Type} {n : Nat} : ∀ (css : List (List α)) (i : Nat) (c : List α), (∀ d ∈ css, d.length = n) -> c.length = n -> i < css.length -> (css.set i c).flatten = css.flatten.take (i * n) ++ c ++ css.flatten.drop (i * n + n)
 | [], i, c, _, _, h => by simp at h
 | d :: css, 0, c, hd, hc, _ => by
  have h1 := hd d (.head _)
  simp only [List.set_cons_zero, List.flatten_cons, Nat.zero_mul, List.take_zero, List.nil_append, Nat.zero_add]
  rw [List.drop_left' h1]
 | d :: css, i + 1, c, hd, hc, h => by
  have h1 := hd d (.head _)
  have ih := Bw css i c (fun e he => hd e (.tail _ he)) hc (by simpa using h)
  simp only [List.set_cons_succ, List.flatten_cons, ih]
  have e1 : (i + 1) * n = d.length + i * n := by rw [h1, Nat.succ_mul]; omega
  rw [e1, List.take_length_add_append, Nat.add_assoc, List.drop_length_add_append]
  simp
section
variable {β : Nat -> Pl} {w : World} {T : Tab} {C : Ctx}
theorem yH {σ : St} {a : Act} {te : Ty} (hs : Sim C β σ a w) : ∀ {ps : List (Nat × Operand)} {xs ys : List te.den} {css : List (List Value)} {cs : Array Value}, fA σ te ps xs = some ys ->
  aJ (fun x c => te.Rel w (C.N β σ.h) x c) xs css -> cs.toList = css.flatten ->
  ∃ (rE : List (List Value)) (cs' : Array Value), Instr.fill (fun i => some (i * te.size, te.size)) cs (ps.map fun p => (p.1, a.eval p.2)) = some cs' ∧ cs'.toList = rE.flatten ∧ aJ (fun x c => te.Rel w (C.N β σ.h) x c) ys rE ∧ ys.length = xs.length
 | [], xs, ys, css, cs, h, hr, hc => by
  simp only [fA, Option.some.injEq] at h
  subst h
  exact ⟨css, cs, rfl, hc, hr, rfl⟩
 | (i, x) :: ps, xs, ys, css, cs, h, hr, hc => by
  simp only [fA] at h
  split at h
  ·rename_i ls hls
   split at h
   ·rename_i y hy
    split at h
    ·rename_i hi
     have hi : i < xs.length := Nat.le_of_ble_eq_true hi
     have hx := gN hy (V.lS hls (aG hs x))
     have hl := dQ hr
     have hcl : css.length = xs.length := hr.length.symm
     have hlen : (a.eval x).cells.size = te.size := by simpa using hx.length
     have hfl : cs.size = css.length * te.size := by
      have : cs.toList.length = css.flatten.length := by rw [hc]
      rw [aR css hl] at this
      simpa using this
     have hfit : i * te.size + te.size <= cs.size := by
      rw [hfl, <- Nat.succ_mul]; exact Nat.mul_le_mul_right _ (by omega)
     have hset := Bw css i (a.eval x).cells.toList hl (by simpa using hlen) (by omega)
     obtain ⟨rE, cs', h1, h2, h3, h4⟩ := yH hs (css := css.set i (a.eval x).cells.toList) (cs := (cs.toList.take (i * te.size) ++ (a.eval x).cells.toList ++ cs.toList.drop (i * te.size + te.size)).toArray) h (hr.set i hx) (by rw [hset, hc])
     refine ⟨rE, cs', ?_, h2, h3, by rw [h4, List.length_set]⟩
     rw [List.map_cons, sS _ cs i (i * te.size) te.size _ _ rfl hlen hfit]
     exact h1
    ·cases h
   ·cases h
  ·cases h
theorem Ua {N : Nat -> Nat -> Prop} : ∀ {ys : List Int} {css : List (List Value)}, aJ (fun x c => (Ty.int .u8).Rel w N x c) ys css -> css.flatten = ys.map (Value.int .u8)
 | [], [], _ => rfl
 | y :: ys, c :: css, h => by
  obtain ⟨h1, h2⟩ := h
  simp only [Ty.Rel] at h1
  subst h1
  simp [Ua h2]
 | [], _ :: _, h => h.elim
 | _ :: _, [], h => h.elim
theorem zBd {P : Program} {N : Nat -> Nat -> Prop} {t : TypeId} {ti : TI} (h : eZ P t ti) {off : Nat} {c : List L} {cs : List Value} {v : V} (hl : aC β w N c ((cs.drop off).take ti.size)) (hs : off + ti.size <= cs.length) (hv : mkV ti.k.isAgg c = some v) :
  ∃ x, (part t cs.toArray off).run P w = .ok x w ∧ v.Rel β w N x := by
 cases ha : ti.k.isAgg with
 | true =>
  rw [ha] at hv
  simp only [mkV, Option.some.injEq] at hv
  subst hv
  refine ⟨.agg (cs.toArray.extract off (off + ti.size)), ?_, ⟨(cs.drop off).take ti.size, ?_, hl⟩⟩
  ·simp only [part, Sem.run_bind, h.isAgg, Result.andThen_ok, ha, if_true, h.sizeOf, Sem.run_pure]
  ·congr 1
   apply Array.toList_inj.1
   simp only [Array.toList_extract, List.extract_eq_take_drop]
   rw [show off + ti.size - off = ti.size by omega]
 | false =>
  rw [ha] at hv
  match c, hv with
  | [l], hv =>
   simp only [mkV, Option.some.injEq] at hv
   subst hv
   have hone : ti.size = 1 := by
    obtain ⟨i, z, _, hsz, _, _, _, hz, hag⟩ := h.i
    rw [ha] at hag
    rw [<- hsz, <- hz]
    cases z <;> first | rfl | simp [jH] at hag
   rw [hone] at hl hs
   obtain ⟨c1, c2, e, h1, h2⟩ := hl
   simp only [aC] at h2
   subst h2
   rw [List.append_nil] at e
   have hlt : off < cs.length := by omega
   have e2 : (cs.drop off).take 1 = [cs[off]] := by rw [List.drop_eq_getElem_cons hlt]; rfl
   rw [e2] at e
   subst e
   refine ⟨cs[off], ?_, h1⟩
   simp only [part, Sem.run_bind, h.isAgg, Result.andThen_ok, ha, Bool.false_eq_true, if_false, List.getElem?_toArray, List.getElem?_eq_getElem hlt, Sem.run_pure]
theorem Zb {σ : St} {a : Act} {o : Oper} {v : V} {h' : List Ob} (hT : aT C.P T) (hs : Sim C β σ a w) (h : qC T σ o = some (true, v, h')) : After C β σ a w o v h' := by
  unfold qC at h
  split at h
  ·
    rename_i _ x ho
    have hx := aG hs x
    split at h
    · rename_i k n hov
      rw [hov] at hx
      simp only [Option.some.injEq, Prod.mk.injEq, true_and] at h
      obtain ⟨rfl, rfl⟩ := h
      simp only [V.Rel, L.Rel, Ty.Rel, List.cons.injEq, and_true] at hx
      refine After.read hs ⟨.int k (sN k .xor (if k.signed then -1 else k.max) n), ?_, by simp only [V.Rel, L.Rel, Ty.Rel]⟩
      simp only [execOp, ho]
      refine bJ ?_
      rw [hx]
      simp only [Op.unary, Op.intBits, sN, Sem.run_pure]
    · cases h
  ·
    rename_i t parts ho
    split at h
    · rename_i ti hti
      split at h
      · rename_i n e hk
        split at h
        · rename_i tie m ty xs hte hz
          split at h
          · rename_i hc
            obtain ⟨hsz, rfl⟩ := hc
            split at h
            · rename_i ys hys
              simp only [Option.some.injEq, Prod.mk.injEq, true_and] at h
              obtain ⟨rfl, rfl⟩ := h
              have hok := hT _ _ hti
              have hu := hok.arr hk
              obtain ⟨_, z, hi, his, hib, hzz, lU, hzs, zIv⟩ := hok.i
              have hz0 := lU β w (C.N β σ.h)
              rw [hz] at hz0
              obtain ⟨c1, c2, ec, hr, h0⟩ := hz0
              simp only [aC] at h0
              subst h0
              rw [List.append_nil] at ec
              simp only [L.Rel, Ty.Rel] at hr
              obtain ⟨hxl, css, ec1, hall⟩ := hr
              obtain ⟨rE, cs', h1, h2, h3, h4⟩ := yH hs (cs := z.cells) hys hall (by rw [ec, ec1])
              refine After.read hs ⟨.agg cs', ?_, ?_⟩
              · have hzv : (zeroValue t).run C.P w = .ok z w := by simp [zeroValue, typeInfo, hi, hzz]
                simp only [execOp, ho]
                refine bJ ?_
                simp only [Instr.build, Sem.run_bind, hzv, Result.andThen_ok, run_underlying hu, (hT _ _ hte).sizeOf, hsz, Array.toList_map]
                rw [h1]
                rfl
              · exact ⟨cs'.toList, rfl, aC.zEc (by simp only [L.Rel, Ty.Rel]; exact ⟨by rw [h4, hxl], rE, h2, h3⟩)⟩
            · cases h
          · cases h
        · cases h
      · cases h
    · cases h
  ·
    rename_i t x i ho
    split at h
    · rename_i ti m ty xs k j hti hx hi
      split at h
      · rename_i n e hk
        split at h
        · rename_i te hte
          split at h
          · rename_i hc
            obtain ⟨hsz, rfl, hagg⟩ := hc
            have hok := hT _ _ hti
            have hu := hok.arr hk
            have hxr := aG hs x
            rw [hx] at hxr
            obtain ⟨cs, ex, c1, c2, ec, hr, h0⟩ := hxr
            simp only [aC] at h0
            subst h0
            rw [List.append_nil] at ec
            subst ec
            simp only [L.Rel, Ty.Rel] at hr
            obtain ⟨hxl, css, ec1, hall⟩ := hr
            have hl := dQ hall
            have iv := eB hi (aG hs i)
            have key : inB j m = true -> ∃ (h2 : j.toNat < xs.length) (h3 : j.toNat < css.length), ty.Rel w (C.N β σ.h) (dP ty.dflt xs j) css[j.toNat] ∧ (cs.drop (j.toNat * ty.size)).take ty.size = css[j.toNat] ∧ 0 <= j ∧ j < (m : Int) ∧ j.toNat * ty.size + ty.size <= cs.length := by
              intro hb
              obtain ⟨g0, g1, g2⟩ := mP hb
              have h2 : j.toNat < xs.length := by omega
              have h3 : j.toNat < css.length := by rw [<- hall.length]; exact h2
              refine ⟨h2, h3, ?_, ?_, g0, g1, ?_⟩
              · have := hall.get j.toNat h2 h3
                simpa [dP, List.getD_eq_getElem?_getD, h2] using this
              · rw [ec1, dM css hl, List.drop_eq_getElem_cons h3, List.flatten_cons, List.take_left' (hl _ (List.getElem_mem h3))]
              · rw [ec1, aR css hl, <- Nat.succ_mul]; exact Nat.mul_le_mul_right _ (by omega)
            obtain ⟨ie, ze, hie, zKg, zKh, zKi, zJx, zKj, zKk⟩ := (hT _ _ hte).i
            have Zc : (isAgg e).run C.P w = .ok te.k.isAgg w := by
              obtain ⟨d, hd, hdk⟩ := (hT _ _ hte).und
              simp only [isAgg, Sem.run_bind, run_underlying hd, Result.andThen_ok, <- hdk]
              cases d <;> rfl
            split at h
            · rename_i hag
              simp only [Option.some.injEq, Prod.mk.injEq] at h
              obtain ⟨hb, rfl, rfl⟩ := h
              obtain ⟨h2, h3, hrel, hcut, g0, g1, g2⟩ := key hb
              refine After.read hs ⟨.agg (cs.toArray.extract (j.toNat * ty.size) (j.toNat * ty.size + ty.size)), ?_, ?_⟩
              · simp only [execOp, ho]
                refine bJ ?_
                rw [iv, ex]
                simp only [Instr.index, asIntOf, Sem.run_bind, Sem.run_pure, Result.andThen_ok, run_underlying hu, g0, g1, and_self, if_true, (hT _ _ hte).sizeOf, part, Zc, hagg, hag, hsz]
              · refine ⟨css[j.toNat], ?_, dJ hrel⟩
                congr 1
                apply Array.toList_inj.1
                simp only [Array.toList_extract, List.extract_eq_take_drop]
                rw [show j.toNat * ty.size + ty.size - j.toNat * ty.size = ty.size by omega, hcut]
            · rename_i hag
              simp only [Option.some.injEq, Prod.mk.injEq] at h
              obtain ⟨hb, rfl, rfl⟩ := h
              obtain ⟨h2, h3, hrel, hcut, g0, g1, g2⟩ := key hb
              have hone : ty.size = 1 := by cases ty <;> first | rfl | cases hag
              have hcl : css[j.toNat].length = 1 := by rw [hrel.length, hone]
              obtain ⟨u, hu1⟩ : ∃ u, css[j.toNat] = [u] := List.length_eq_one_iff.1 hcl
              rw [hu1, hone, Nat.mul_one] at hcut
              have hget : cs[j.toNat]? = some u := by
                have : (cs.drop j.toNat).take 1 = [u] := hcut
                have h5 : ((cs.drop j.toNat).take 1)[0]? = some u := by rw [this]; rfl
                rw [List.getElem?_take, if_pos (by omega), List.getElem?_drop] at h5
                simpa using h5
              rw [hu1] at hrel
              refine After.read hs ⟨u, ?_, by simp only [V.Rel, L.Rel]; exact hrel⟩
              simp only [execOp, ho]
              refine bJ ?_
              rw [iv, ex]
              simp only [Instr.index, asIntOf, Sem.run_bind, Sem.run_pure, Result.andThen_ok, run_underlying hu, g0, g1, and_self, if_true, (hT _ _ hte).sizeOf, part, Zc, hagg, hag, hsz, hone, Nat.mul_one, Bool.false_eq_true, if_false, List.getElem?_toArray, hget]
          · cases h
        · cases h
      · cases h
    · cases h
  ·
    rename_i s d x ho
    split at h
    · rename_i ts td l hts htd hl
      have hx := aG hs x
      rw [hl] at hx
      split at h
      · rename_i e hks hkd
        split at h
        · rename_i te hte
          split at h
          · rename_i hke
            split at h
            · rename_i c ys hys
              simp only [Option.some.injEq, Prod.mk.injEq] at h
              obtain ⟨rfl, rfl, rfl⟩ := h
              have hy := qA hs.heap hys (show l.Rel β w (C.N β σ.h) [a.eval x] from hx)
              have hus := (hT _ _ hts).slice hks
              have hue := (hT _ _ hte).int hke
              have hud := (hT _ _ htd).str hkd
              refine After.read hs ⟨.string ⟨(rF ys).toArray⟩, ?_, by simp only [V.Rel, L.Rel, Ty.Rel]⟩
              simp only [execOp, ho]
              refine bJ ?_
              have fin : ∀ b off cap, a.eval x = .slice (some ⟨b, off, none⟩) ys.length cap -> (∀ j u, (ys.map (Value.int .u8))[j]? = some u -> w.cell? ⟨b, off + j, none⟩ = some u) -> (convert s d (a.eval x)).run C.P w = .ok (.string ⟨(rF ys).toArray⟩) w := by
                intro b off cap hv hcells
                rw [hv, run_convert_bytes_arg (P := C.P) w s e hus hue b off ys.length cap ys rfl (fun i hi => hcells i _ (by simp [List.getD_eq_getElem?_getD, hi])) d hud]
                simp [strOfNums, rF]
              rcases hy with ⟨hv, rfl⟩ | ⟨b, off, cap, css, hv, _, hall, hcs⟩ | ⟨a0, cap, hv, rfl⟩
              · rw [hv, run_convert_bytes_nil (P := C.P) w s e hus hue 0 0 d hud]; rfl
              · exact fin b off cap hv (by rw [<- Ua hall]; exact hcs)
              · obtain ⟨b, off, wk⟩ := a0
                rw [hv, run_convert_bytes_string w s d e _ 0 cap hus hue hud]
                simp [Conv.bytesToString, loadCells, loadCellsFrom, rF]
                rfl
            · cases h
          · cases h
        · cases h
      · rename_i e hks hkd
        split at h
        · rename_i te s0 hte
          split at h
          · rename_i hke
            simp only [Option.some.injEq, Prod.mk.injEq] at h
            obtain ⟨hroom, rfl, rfl⟩ := h
            have hus := (hT _ _ hts).str hks
            have hue := (hT _ _ hte).int hke
            have hud := (hT _ _ htd).slice hkd
            simp only [V.Rel, L.Rel, Ty.Rel, List.cons.injEq, and_true] at hx
            have hroom := Nat.le_of_ble_eq_true hroom
            unfold room at hroom
            let bs : ByteArray := ⟨s0.toArray⟩
            have hbs : bs.size = s0.length := by simp [bs, ByteArray.size]
            have hge := grownCap_ge w bs.size 0 e
            have hcm := grownCap_le_maxLen w bs.size 0 e (by simp only [maxLen]; omega)
            have hkk : Keep (fun _ _ => False) w (bytesWorld w e bs) := Keep.qR (M := fun _ => False) (by rw [bytesWorld_size]; omega) (fun b hb _ => bytesWorld_at_old w e bs b hb) (fun _ _ h => h)
            have hrun : (convert s d (a.eval x)).run C.P w = .ok (.slice (some ⟨w.heap.size, 0, none⟩) bs.size (grownCap w bs.size 0 e)) (bytesWorld w e bs) := by
              rw [hx]
              exact Go.Lib.run_convert_string_bytes w s d e bs hus hud hue
            have hN : ∀ b j, C.N β σ.h b j -> b < w.heap.size := fun b j hb => by
              rcases hb with hb | ⟨id, o, ho, _, hbk⟩
              · exact Nat.lt_of_lt_of_le (hs.heap.n0 b j hb) hs.heap.size
              · exact (hs.heap.fQ id o b ho ⟨j, hbk⟩).2.1
            have hfr : ∀ (id : Nat) (o : Ob) (b : Nat), σ.h[id]? = some o -> o.blks (β id) b -> (bytesWorld w e bs).heap[b]? = w.heap[b]? := fun id o b ho hb => hkk.block b (hs.heap.fQ id o b ho hb).2.1 (fun _ h => h)
            refine ⟨β, bytesWorld w e bs, _, .slice (some ⟨w.heap.size, 0, none⟩) bs.size (grownCap w bs.size 0 e), ?_, .inl rfl, Moves.refl β, hkk.weaken fun _ _ h => h.elim, ?_, ?_⟩
            · simp only [execOp, ho, Sem.run_bind, hrun, Result.andThen_ok, Sem.run_pure]
            · refine ⟨⟨fun id o ho => (hs.heap.obj id o ho).mono (Moves.refl β) (hkk.weaken fun _ _ h => h.elim) (fun _ _ _ h => h) fun b hb => hfr id o b ho hb, hs.heap.dead, hs.heap.jY, fun id o b ho hb => ?_, hs.heap.n0, hs.heap.frame.yS hkk fun _ _ _ h => h.elim, Nat.le_trans hs.heap.size hkk.size, ?_, ?_, ?_, hs.heap.fixed⟩, hs.defers, hs.size, fun i u hu => (hs.reg i u hu).mono (Moves.refl β) (hkk.weaken fun _ _ h => h.elim) fun _ _ _ h => h⟩
              · obtain ⟨k1, k2, k3⟩ := hs.heap.fQ id o b ho hb
                exact ⟨k1, Nat.lt_of_lt_of_le k2 hkk.size, k3⟩
              · exact (show (bytesWorld w e bs).os = w.os from rfl).trans hs.heap.os
              · exact (show (bytesWorld w e bs).tape = w.tape from rfl).trans hs.heap.tape
              · exact (show (bytesWorld w e bs).output = w.output from rfl).trans hs.heap.output
            · simp only [V.Rel, L.Rel, Ty.Rel]
              have hsl : (aX s0).length = bs.size := by simp [aX, hbs]
              refine ⟨_, rfl, .inr (.inl ⟨w.heap.size, 0, grownCap w bs.size 0 e, (aX s0).map fun n => [Value.int .u8 n], by rw [hsl], by rw [bytesWorld_size]; omega, fun j _ _ hn => ?_, by rw [hsl]; exact hge, hcm, ?_, ?_, ?_⟩)⟩
              · have := hN _ _ hn; omega
              · exact Ov (fun n => by simp only) _
              · intro c hc
                obtain ⟨n, _, rfl⟩ := List.mem_map.1 hc
                rfl
              · intro j u hj
                rw [Nat.zero_add]
                have hj2 : j < s0.length := by
                  have : ((aX s0).map fun n => [Value.int .u8 n]).flatten.length = s0.length := by rw [aR (n := 1) _ (fun c hc => by obtain ⟨n, _, rfl⟩ := List.mem_map.1 hc; rfl)]; simp [aX]
                  rw [<- this]
                  exact (List.getElem?_eq_some_iff.1 hj).1
                have e1 : ((aX s0).map fun n => [Value.int .u8 n]).flatten = (aX s0).map (Value.int .u8) := by
                  generalize aX s0 = l
                  induction l with
                  | nil => rfl
                  | cons a l ih => simp [ih]
                rw [e1] at hj
                rw [bytesWorld_cell w e bs j (by rw [hbs]; exact hj2)]
                simp only [aX, List.map_map, List.getElem?_map, List.getElem?_eq_getElem hj2, Option.map_some, Option.some.injEq, Function.comp] at hj
                simp [bs, List.getD_eq_getElem?_getD, hj2, <- hj]
          · cases h
        · cases h
      · cases h
    · cases h
  ·
    rename_i s x f ho
    have hx := aG hs x
    split at h
    · rename_i ti ls hti hl
      rw [hl] at hx
      split at h
      · rename_i fs hk
        split at h
        · rename_i off ft hf
          split at h
          · rename_i tf htf
            split at h
            · rename_i c hc
              split at h
              · rename_i v0 hv
                simp only [Option.some.injEq, Prod.mk.injEq, true_and] at h
                obtain ⟨rfl, rfl⟩ := h
                obtain ⟨cs, ex, hls⟩ := hx
                obtain ⟨hr, hle⟩ := jQ hc hls
                have hok := hT _ _ hti
                have hok2 := hT _ _ htf
                obtain ⟨ff, hu, hfs⟩ := hok.struct hk
                subst hfs
                rw [List.getElem?_map] at hf
                cases hfe : ff.toList[f]? with
                | none => rw [hfe] at hf; cases hf
                | some fe =>
                  rw [hfe] at hf
                  simp only [Option.map_some, Option.some.injEq, Prod.mk.injEq] at hf
                  obtain ⟨rfl, rfl⟩ := hf
                  have zIx : ff[f]? = some fe := by rw [<- Array.getElem?_toList]; exact hfe
                  obtain ⟨u, h1, h2⟩ := zBd (P := C.P) hok2 (off := fe.offset) hr hle hv
                  refine After.read hs ⟨u, ?_, h2⟩
                  simp only [execOp, ho]
                  refine bJ ?_
                  rw [ex]
                  simp only [Instr.field, Sem.run_bind, run_underlying hu, Result.andThen_ok, zIx, asAgg, Sem.run_pure]
                  exact h1
              · cases h
            · cases h
          · cases h
        · cases h
      · cases h
    · cases h
  · cases h
where
 aC.zEc {l : L} {cs : List Value} {N : Nat -> Nat -> Prop} (h : l.Rel β w N cs) : aC β w N [l] cs := ⟨cs, [], by simp, h, rfl⟩
 Ov {γ δ : Type} {R : γ -> δ -> Prop} {f : γ -> δ} (h : ∀ x, R x (f x)) : ∀ l : List γ, aJ R l (l.map f)
  | [] => trivial
  | a :: l => ⟨h a, Ov h l⟩
theorem Zd {σ : St} {a : Act} {o : Oper} {v : V} {h' : List Ob} (hT : aT C.P T) (hs : Sim C β σ a w) (h : gD T σ o = some (true, v, h')) : After C β σ a w o v h' := by
 unfold gD at h
 split at h
 ·exact Za hT hs h
 ·split at h
  ·exact Zb hT hs h
  ·exact Vm hT hs h
end
end Go.Dec
namespace Go.Dec
def chk {ρ : Type} (b : Bool) (r : Option ρ) : Option ρ := match b with | true => r | false => none
def br {ρ : Type} (b : Bool) (x y : Option ρ) : Option ρ := match b with | true => x | false => y
def ob {α ρ : Type} (o : Option α) (k : α -> Option ρ) : Option ρ := match o with | some x => k x | none => none
theorem mV {ρ : Type} {b : Bool} {x : Option ρ} {r : ρ} (h : chk b x = some r) : b = true ∧ x = some r := by
 cases b
 ·cases h
 ·exact ⟨rfl, h⟩
theorem qU {ρ : Type} {b : Bool} {x y : Option ρ} {r : ρ} (h : br b x y = some r) : (b = true ∧ x = some r) ∨ (b = false ∧ y = some r) := by
 cases b
 ·exact .inr ⟨rfl, h⟩
 ·exact .inl ⟨rfl, h⟩
theorem aA {α ρ : Type} {o : Option α} {k : α -> Option ρ} {r : ρ} (h : ob o k = some r) : ∃ x, o = some x ∧ k x = some r := by
 cases o
 ·cases h
 ·exact ⟨_, rfl, h⟩
inductive Out where
 | ret (v : V)
 | pan (t : TypeId) (v : V)
inductive Ex where
 | normal | exit (id : Nat) | goto (l : Nat) | ret | pan (t : TypeId) (v : V)
def rG (β : Nat -> Pl) (w : World) (N : Nat -> Nat -> Prop) : Out -> Ending -> Prop
 | .ret v, e => ∃ x, e = .returned x ∧ v.Rel β w N x
 | .pan t v, e => ∃ x, e = .panicked [{ v := .iface t x, recovered := false }] ∧ v.Rel β w N x
def dH (β : Nat -> Pl) (w : World) (N : Nat -> Nat -> Prop) : Ex -> Exit -> Prop
 | .normal, x => x = .normal
 | .exit i, x => x = .exit i
 | .goto l, x => x = .goto l
 | .ret, x => x = .ret
 | .pan t v, x => ∃ y, x = .panic [{ v := .iface t y, recovered := false }] ∧ v.Rel β w N y
def iA (β : Nat -> Pl) (w : World) (N : Nat -> Nat -> Prop) (vs : List V) (xs : List Value) : Prop := aJ (fun v x => V.Rel β w N v x) vs xs
def qD (P : Program) (f : FuncId) (vs : List V) (h : List Ob) (R : Out -> List Ob -> Prop) : Prop :=
 ∀ (C : Ctx) (β : Nat -> Pl) (w : World) (xs : List Value), C.P = P -> bG C β h w -> iA β w (C.N β h) vs xs ->
  Calls P f xs.toArray w fun e w' => ∃ out h' β', R out h' ∧ Moves β β' ∧ Keep (C.N β h) w w' ∧ (∀ b j, b < w.heap.size -> C.N β' h' b j -> C.N β h b j) ∧ bG C β' h' w' ∧ rG β' w' (C.N β' h') out e
theorem qD.mono {P : Program} {f : FuncId} {vs : List V} {h : List Ob} {R R' : Out -> List Ob -> Prop} (hc : qD P f vs h R) (hR : ∀ o k, R o k -> R' o k) : qD P f vs h R' := by
 intro C β w xs hP hs ha
 refine (hc C β w xs hP hs ha).mono ?_
 rintro e w' ⟨out, h', β', k1, k2⟩
 exact ⟨out, h', β', hR _ _ k1, k2⟩
def zEd (P : Program) (f : FuncId) (vs : List V) (h : List Ob) (out : Out) (h' : List Ob) : Prop := qD P f vs h fun o k => o = out ∧ k = h'
def fK (P : Program) (f : FuncId) : Bool :=
 match P.funcs[f]? with
 | some fn => fn.body.isSome && !(fn.name == "runtime.NumGoroutine")
 | none => false
def aV {α : Type} (f : α -> Bool) : List α -> Bool
 | [] => true
 | x :: r => f x && aV f r
def L.isD : L -> Bool
 | .val .. | .gI | .aS | .dX .. => true
 | .clo _ [] => true
 | _ => false
def Vo : Sum L (List L) -> Bool
 | .inl l => l.isD
 | .inr ls => aV L.isD ls
def V.isD : V -> Bool
 | .one l => l.isD
 | .agg ls => aV L.isD ls
 | .tup vs => aV Vo vs
 | .aN => false
structure PE where
 R : Type
 use : Nat
 run : List V -> List Ob -> Option (Bool × Option R)
 enc : R -> List V -> List Ob -> V × List Ob
structure PE.OK (P : Program) (f : FuncId) (e : PE) : Prop where
 body : fK P f = true
 rel : ∀ vs h y, e.run vs h = some (true, some y) -> zEd P f vs h (.ret (e.enc y vs h).1) (e.enc y vs h).2
 dry : Nat.ble e.use 1 = true -> ∀ vs h h2, aV V.isD vs = true -> e.run vs h = e.run vs h2 ∧ ∀ y, (e.enc y vs h).1 = (e.enc y vs h2).1
 same : Nat.ble e.use 1 = true -> ∀ y vs h, (e.enc y vs h).2 = h
def pos (i : Nat) : List Nat -> Nat -> Option Nat
 | [], _ => none
 | a :: r, n => match Nat.beq a i with
  | true => some n
  | false => pos i r (n + 1)
mutual
def L.ids : L -> List Nat
 | .ptr id _ => [id]
 | .bM id _ => [id]
 | .eY id _ _ _ _ => [id]
 | .bW id _ _ _ => [id]
 | .sl id _ _ _ => [id]
 | .own id _ => [id]
 | .mp id => [id]
 | .clo _ caps => L.rH caps
 | _ => []
def L.rH : List L -> List Nat
 | [] => []
 | l :: ls => l.ids ++ L.rH ls
end
def V.ids : V -> List Nat
 | .one l => l.ids
 | .agg ls => L.rH ls
 | _ => []
def Ob.ids : Ob -> List Nat
 | .box _ ls => L.rH ls
 | .arr .. => []
 | .fm _ => []
def zC (acc : List Nat) : List Nat -> List Nat
 | [] => acc
 | i :: r => match pos i acc 0 with
  | some _ => zC acc r
  | none => zC (acc ++ [i]) r
def Am (h : List Ob) : Nat -> List Nat -> Nat -> List Nat
 | 0, acc, _ => acc
 | n + 1, acc, p =>
  match acc[p]? with
  | none => acc
  | some i => match h[i]? with
   | some o => Am h n (zC acc o.ids) (p + 1)
   | none => Am h n acc (p + 1)
def zBe : List V -> List Nat
 | [] => []
 | v :: vs => v.ids ++ zBe vs
def reach (vs : List V) (h : List Ob) : List Nat := Am h (h.length + 1) (zC [] (zBe vs)) 0
structure Orc (ρ : Type) where
 pure : FuncId -> Option PE
 gen : FuncId -> List V -> List Ob -> (Out -> List Ob -> Option ρ) -> Option ρ
structure eD (P : Program) {ρ : Type} (Γ : Orc ρ) : Prop where
 pure : ∀ f e, Γ.pure f = some e -> e.OK P f
 gen : ∀ f vs h k r, Γ.gen f vs h k = some r -> fK P f = true ∧ qD P f vs h fun out h' => k out h' = some r ∧ ∀ id, id < h.length -> id ∉ reach vs h -> h'[id]? = h[id]?
def Orc.call {ρ : Type} (Γ : Orc ρ) (f : FuncId) (vs : List V) (h : List Ob) (k : Out -> List Ob -> Option ρ) : Option ρ :=
 match Γ.pure f with
 | some e =>
  match e.run vs h with
  | some (c, o) => chk c (ob o fun y => k (.ret (e.enc y vs h).1) (e.enc y vs h).2)
  | none => none
 | none => Γ.gen f vs h k
def Orc.quiet {ρ : Type} (Γ : Orc ρ) : Orc ρ := ⟨Γ.pure, fun _ _ _ _ => none⟩
theorem eD.quiet {P : Program} {ρ : Type} {Γ : Orc ρ} (h : eD P Γ) : eD P Γ.quiet := ⟨h.pure, fun _ _ _ _ _ h => by cases h⟩
theorem eD.call {P : Program} {ρ : Type} {Γ : Orc ρ} (h : eD P Γ) {f : FuncId} {vs : List V} {hp : List Ob} {k : Out -> List Ob -> Option ρ} {r : ρ} (hc : Γ.call f vs hp k = some r) :
  fK P f = true ∧ qD P f vs hp fun out h' => k out h' = some r := by
 unfold Orc.call at hc
 split at hc
 ·rename_i e he
  split at hc
  ·rename_i c o hr
   obtain ⟨rfl, hc⟩ := mV hc
   obtain ⟨y, rfl, hc⟩ := aA hc
   have hok := h.pure f e he
   refine ⟨hok.body, fun C β w xs hP hs ha => (hok.rel _ _ _ hr C β w xs hP hs ha).mono ?_⟩
   rintro e w' ⟨out, h', β', ⟨rfl, rfl⟩, hh⟩
   exact ⟨_, _, β', hc, hh⟩
  ·cases hc
 ·obtain ⟨h1, h2⟩ := h.gen _ _ _ _ _ hc
  exact ⟨h1, h2.mono fun _ _ h => h.1⟩
def aP (r : List V) (d : Option Tmp) (v : V) : List V :=
 match d with
 | some i => r.set i v
 | none => r
abbrev K (ρ : Type) := Ex -> St -> Option ρ
abbrev rJ (ρ : Type) := St -> K ρ -> Option ρ
section ops
variable {ρ : Type} (Γ : Orc ρ) (T : Tab)
def dV (σ : St) (xs : List Operand) : List V := xs.map (ovl σ)
def callee (σ : St) (x : Operand) : Option (FuncId × List V) :=
 match ovl σ x with
 | .one (.val .opq (.func (.func f) first cs)) => if first.size = 0 ∧ cs.size = 0 then some (f, []) else none
 | .one (.clo f cs) => some (f, cs.map .one)
 | _ => none
def uX (vs : List V) (h : List Ob) (key : MK) (k : Out -> List Ob -> Option ρ) : List (MK × Nat) -> Option ρ
 | [] => none
 | (a, f) :: r => br (MK.beq key a) (Γ.gen f vs h k) (uX vs h key k r)
def lV (σ : St) (o : Oper) (k : K ρ) : Option ρ :=
 match o.op with
 | .call { callee := .value x, args, .. } =>
  match callee σ x with
  | some (f, cs) => Γ.call f (dV σ args.toList ++ cs) σ.h fun out h' =>
    match out with
    | .ret v => k .normal ⟨aP σ.r o.dst v, h'⟩
    | .pan t v => k (.pan t v) ⟨σ.r, h'⟩
  | none =>
   match ovl σ x with
   | .one (.oZ key tab) => uX Γ (dV σ args.toList) σ.h key (fun out h' =>
     match out with
     | .ret v => k .normal ⟨aP σ.r o.dst v, h'⟩
     | .pan t v => k (.pan t v) ⟨σ.r, h'⟩) tab
   | _ => none
 | .pick c x y =>
  match ovl σ c with
  | .one (.val .bool b) => br b (k .normal ⟨aP σ.r o.dst (ovl σ x), σ.h⟩) (k .normal ⟨aP σ.r o.dst (ovl σ y), σ.h⟩)
  | _ => none
 | _ =>
  match gD T σ o with
  | some (c, v, h') => chk c (k .normal ⟨aP σ.r o.dst v, h'⟩)
  | none => none
def aO (ops : Array Oper) (j : Nat) : Option Nat := (ops[j]?).bind (·.dst)
def lW (ops : Array Oper) : List Oper -> St -> K ρ -> Option ρ
 | [], σ, k => k .normal σ
 | o :: rest, σ, k =>
  match o.guard with
  | none => lV Γ T σ o fun e σ' => match e with | .normal => lW ops rest σ' k | e => k e σ'
  | some (j, want) =>
   match aO ops j with
   | some s =>
    match σ.r.getD s .aN with
    | .one (.val .bool b) =>
     br b
      (match want with
       | true => lV Γ T ⟨σ.r.set s (.one (.val .bool true)), σ.h⟩ o fun e σ' => match e with | .normal => lW ops rest σ' k | e => k e σ'
       | false => lW ops rest ⟨aP (σ.r.set s (.one (.val .bool true))) o.dst (.tup []), σ.h⟩ k)
      (match want with
       | false => lV Γ T ⟨σ.r.set s (.one (.val .bool false)), σ.h⟩ o fun e σ' => match e with | .normal => lW ops rest σ' k | e => k e σ'
       | true => lW ops rest ⟨aP (σ.r.set s (.one (.val .bool false))) o.dst (.tup []), σ.h⟩ k)
    | .tup [] => lW ops rest ⟨aP σ.r o.dst (.tup []), σ.h⟩ k
    | _ => none
   | none => none
end ops
section sound
variable {ρ : Type} {Γ : Orc ρ} {T : Tab} {C : Ctx}
theorem Sim.put {β : Nat -> Pl} {σ : St} {a : Act} {w : World} (hs : Sim C β σ a w) (d : Option Tmp) {v : V} {x : Value} (hv : v.Rel β w (C.N β σ.h) x) : Sim C β ⟨aP σ.r d v, σ.h⟩ (a.put d x) w := by
 cases d with
 | none => exact ⟨hs.heap, hs.defers, hs.size, hs.reg⟩
 | some i =>
  refine ⟨hs.heap, hs.defers, by simp [aP, Act.put, hs.size], fun j u hu => ?_⟩
  simp only [aP] at hu
  simp only [Act.put, Array.getD_eq_getD_getElem?, Array.getElem?_setIfInBounds]
  by_cases hij : i = j
  ·subst hij
   rcases Nat.lt_or_ge i σ.r.length with hi | hi
   ·rw [List.getElem?_set_self hi] at hu
    simp only [Option.some.injEq] at hu
    subst hu
    rw [if_pos rfl, if_pos (by rw [<- hs.size]; exact hi)]
    exact hv
   ·rw [List.getElem?_eq_none (by simpa using hi)] at hu; cases hu
  ·rw [List.getElem?_set_ne hij] at hu
   rw [if_neg hij]
   have := hs.reg j u hu
   rwa [Array.getD_eq_getD_getElem?] at this
theorem wJ {β : Nat -> Pl} {σ : St} {a : Act} {w : World} (hs : Sim C β σ a w) : ∀ xs : List Operand, iA β w (C.N β σ.h) (dV σ xs) (xs.map a.eval)
 | [] => trivial
 | x :: xs => ⟨aG hs x, wJ hs xs⟩
theorem wK {β : Nat -> Pl} {w : World} {N : Nat -> Nat -> Prop} : ∀ {cs : List L} {us : List Value}, L.aU β w N cs us -> iA β w N (cs.map .one) us
 | [], us, h => by simp only [L.aU] at h; subst h; trivial
 | c :: cs, us, h => by
  simp only [L.aU] at h
  obtain ⟨u, r, rfl, h1, h2⟩ := h
  exact ⟨h1, wK h2⟩
theorem rM {P : Program} {f : FuncId} (h : fK P f = true) (args : Array Value) (w : World) : (callFunc f args).run P w = .ok (.enter f args) w := by
 unfold fK at h
 split at h
 ·rename_i fn hf
  simp only [Bool.and_eq_true, Bool.not_eq_true'] at h
  have h1 : fn.body.isNone = false := by cases hb : fn.body <;> simp [hb] at h ⊢
  simp only [callFunc, Sem.run_bind, run_program, Result.andThen_ok, hf, h.2, h1, Bool.false_eq_true, if_false, Sem.run_pure]
 ·cases h
theorem uY {β : Nat -> Pl} {σ : St} {a : Act} {w : World} {o : Oper} {f : FuncId} {cs : List V} {x : Operand} {args : Array Operand} {ats : Array TypeId} {R : Out -> List Ob -> Prop} {next : Act -> World -> Prop} {Q : Exit -> Act -> World -> Prop}
  (ho : o.op = .call { callee := .value x, args := args, argTypes := ats }) (hc : callee σ x = some (f, cs)) (hb : fK C.P f = true) (hcall : qD C.P f (dV σ args.toList ++ cs) σ.h R) (hs : Sim C β σ a w)
  (hn : ∀ v h' β' a' w', R (.ret v) h' -> Sim C β' ⟨aP σ.r o.dst v, h'⟩ a' w' -> next a' w')
  (hq : ∀ t v h' β' w' y, R (.pan t v) h' -> Sim C β' ⟨σ.r, h'⟩ a w' -> v.Rel β' w' (C.N β' h') y -> Q (.panic [{ v := .iface t y, recovered := false }]) a w') : o.wp C.P a w next Q := by
 have hx := aG hs x
 have : ∃ us, (resolve a.eval { callee := .value x, args, argTypes := ats } o.type).run C.P w = .ok { target := .fn (.func f) us, args := args.map a.eval } w ∧ iA β w (C.N β σ.h) cs us.toList := by
  unfold callee at hc
  split at hc
  ·rename_i f' first cs' hov
   split at hc
   ·rename_i he
    simp only [Option.some.injEq, Prod.mk.injEq] at hc
    obtain ⟨rfl, rfl⟩ := hc
    rw [hov] at hx
    simp only [V.Rel, L.Rel, Ty.Rel, List.cons.injEq, and_true] at hx
    have e1 : first = #[] := Array.eq_empty_of_size_eq_zero he.1
    have e2 : cs' = #[] := Array.eq_empty_of_size_eq_zero he.2
    subst e1 e2
    exact ⟨#[], by simp [resolve, hx.1, Deferred.ofValue], trivial⟩
   ·cases hc
  ·rename_i f' cs' hov
   simp only [Option.some.injEq, Prod.mk.injEq] at hc
   obtain ⟨rfl, rfl⟩ := hc
   rw [hov] at hx
   simp only [V.Rel, L.Rel, List.cons.injEq, and_true] at hx
   obtain ⟨us, hx, hr⟩ := hx
   exact ⟨us.toArray, by simp [resolve, hx, Deferred.ofValue], wK hr⟩
  ·cases hc
 obtain ⟨us, hres, hus⟩ := this
 have hargs : iA β w (C.N β σ.h) (dV σ args.toList ++ cs) (args.map a.eval ++ us).toList := by
  rw [Array.toList_append, Array.toList_map]
  exact aJ.append (wJ hs _) hus
 have hcl := hcall C β w _ rfl hs.heap hargs
 unfold Oper.wp
 have hrun : (execOp a.eval o).run C.P w = .ok (.enter f (args.map a.eval ++ us)) w := by
  simp only [execOp, ho, Sem.run_bind, hres, Result.andThen_ok, invoke, rM hb]
 rw [hrun, Oper.upon_enter]
 rw [Array.toArray_toList] at hcl
 refine hcl.mono ?_
 rintro e w' ⟨out, h', β', hk, hm, hkp, hN, hh, hout⟩
 have sU : ∀ (i : Nat) (v : V), σ.r[i]? = some v -> v.Rel β' w' (C.N β' h') (a.tmps.getD i undef) := fun i v hv => (hs.reg i v hv).mono hm hkp hN
 cases out with
 | ret v =>
  obtain ⟨y, rfl, hy⟩ := hout
  have hs' : Sim C β' ⟨σ.r, h'⟩ a w' := ⟨hh, hs.defers, hs.size, sU⟩
  exact hn v h' β' _ w' hk (hs'.put o.dst hy)
 | pan t v =>
  obtain ⟨y, rfl, hy⟩ := hout
  exact hq t v h' β' w' y hk ⟨hh, hs.defers, hs.size, sU⟩ hy
theorem Bz {vs : List V} {hp : List Ob} {key : MK} {k : Out -> List Ob -> Option ρ} {r : ρ} : ∀ {tab : List (MK × Nat)}, uX Γ vs hp key k tab = some r -> ∃ f, lQ tab key = some f ∧ Γ.gen f vs hp k = some r
 | [], h => by cases h
 | (a, f) :: tab, h => by
  simp only [uX] at h
  simp only [lQ]
  rcases qU h with ⟨hb, h⟩ | ⟨hb, h⟩
  ·rw [hb]; exact ⟨f, rfl, h⟩
  ·rw [hb]; exact Bz h
theorem zBf {β : Nat -> Pl} {σ : St} {a : Act} {w : World} {o : Oper} {f : FuncId} {x : Operand} {args : Array Operand} {ats : Array TypeId} {R : Out -> List Ob -> Prop} {next : Act -> World -> Prop} {Q : Exit -> Act -> World -> Prop}
  (ho : o.op = .call { callee := .value x, args := args, argTypes := ats }) (hx : a.eval x = .func (.func f) #[] #[]) (hb : fK C.P f = true) (hcall : qD C.P f (dV σ args.toList) σ.h R) (hs : Sim C β σ a w)
  (hn : ∀ v h' β' a' w', R (.ret v) h' -> Sim C β' ⟨aP σ.r o.dst v, h'⟩ a' w' -> next a' w')
  (hq : ∀ t v h' β' w' y, R (.pan t v) h' -> Sim C β' ⟨σ.r, h'⟩ a w' -> v.Rel β' w' (C.N β' h') y -> Q (.panic [{ v := .iface t y, recovered := false }]) a w') : o.wp C.P a w next Q := by
 have hres : (resolve a.eval { callee := .value x, args, argTypes := ats } o.type).run C.P w = .ok { target := .fn (.func f) #[], args := args.map a.eval } w := by simp [resolve, hx, Deferred.ofValue]
 have hargs : iA β w (C.N β σ.h) (dV σ args.toList) (args.map a.eval ++ #[]).toList := by
  simpa using wJ hs args.toList
 have hcl := hcall C β w _ rfl hs.heap hargs
 unfold Oper.wp
 have hrun : (execOp a.eval o).run C.P w = .ok (.enter f (args.map a.eval ++ #[])) w := by
  simp only [execOp, ho, Sem.run_bind, hres, Result.andThen_ok, invoke, rM hb]
 rw [hrun, Oper.upon_enter]
 rw [Array.toArray_toList] at hcl
 refine hcl.mono ?_
 rintro e w' ⟨out, h', β', hk, hm, hkp, hN, hh, hout⟩
 have sU : ∀ (i : Nat) (v : V), σ.r[i]? = some v -> v.Rel β' w' (C.N β' h') (a.tmps.getD i undef) := fun i v hv => (hs.reg i v hv).mono hm hkp hN
 cases out with
 | ret v =>
  obtain ⟨y, rfl, hy⟩ := hout
  have hs' : Sim C β' ⟨σ.r, h'⟩ a w' := ⟨hh, hs.defers, hs.size, sU⟩
  exact hn v h' β' _ w' hk (hs'.put o.dst hy)
 | pan t v =>
  obtain ⟨y, rfl, hy⟩ := hout
  exact hq t v h' β' w' y hk ⟨hh, hs.defers, hs.size, sU⟩ hy
theorem Eu (hT : aT C.P T) (hΓ : eD C.P Γ) {β : Nat -> Pl} {σ : St} {a : Act} {w : World} {o : Oper} {k : Dec.K ρ} {r : ρ} {next : Act -> World -> Prop} {Q : Exit -> Act -> World -> Prop} (h : lV Γ T σ o k = some r) (hs : Sim C β σ a w)
    (hn : ∀ σ' β' a' w', Sim C β' σ' a' w' -> k .normal σ' = some r -> next a' w')
    (hq : ∀ e x σ' β' a' w', Sim C β' σ' a' w' -> e ≠ .normal -> dH β' w' (C.N β' σ'.h) e x -> k e σ' = some r -> Q x a' w') : o.wp C.P a w next Q := by
  unfold lV at h
  split at h
  ·
    rename_i x args ats ho
    split at h
    · rename_i f cs hc
      obtain ⟨hb, hcall⟩ := hΓ.call h
      have hx := aG hs x
      have : ∃ us, (resolve a.eval { callee := .value x, args, argTypes := ats } o.type).run C.P w = .ok { target := .fn (.func f) us, args := args.map a.eval } w ∧ iA β w (C.N β σ.h) cs us.toList := by
        unfold callee at hc
        split at hc
        · rename_i f' first cs' hov
          split at hc
          · rename_i he
            simp only [Option.some.injEq, Prod.mk.injEq] at hc
            obtain ⟨rfl, rfl⟩ := hc
            rw [hov] at hx
            simp only [V.Rel, L.Rel, Ty.Rel, List.cons.injEq, and_true] at hx
            have e1 : first = #[] := Array.eq_empty_of_size_eq_zero he.1
            have e2 : cs' = #[] := Array.eq_empty_of_size_eq_zero he.2
            subst e1 e2
            exact ⟨#[], by simp [resolve, hx.1, Deferred.ofValue], trivial⟩
          · cases hc
        · rename_i f' cs' hov
          simp only [Option.some.injEq, Prod.mk.injEq] at hc
          obtain ⟨rfl, rfl⟩ := hc
          rw [hov] at hx
          simp only [V.Rel, L.Rel, List.cons.injEq, and_true] at hx
          obtain ⟨us, hx, hr⟩ := hx
          exact ⟨us.toArray, by simp [resolve, hx, Deferred.ofValue], wK hr⟩
        · cases hc
      obtain ⟨us, hres, hus⟩ := this
      have hargs : iA β w (C.N β σ.h) (dV σ args.toList ++ cs) (args.map a.eval ++ us).toList := by
        rw [Array.toList_append, Array.toList_map]
        exact aJ.append (wJ hs _) hus
      have hcl := hcall C β w _ rfl hs.heap hargs
      unfold Oper.wp
      have hrun : (execOp a.eval o).run C.P w = .ok (.enter f (args.map a.eval ++ us)) w := by
        simp only [execOp, ho, Sem.run_bind, hres, Result.andThen_ok, invoke, rM hb]
      rw [hrun, Oper.upon_enter]
      rw [Array.toArray_toList] at hcl
      refine hcl.mono ?_
      rintro e w' ⟨out, h', β', hk, hm, hkp, hN, hh, hout⟩
      have sU : ∀ (i : Nat) (v : V), σ.r[i]? = some v -> v.Rel β' w' (C.N β' h') (a.tmps.getD i undef) := fun i v hv => (hs.reg i v hv).mono hm hkp hN
      cases out with
      | ret v =>
        obtain ⟨y, rfl, hy⟩ := hout
        have hs' : Sim C β' ⟨σ.r, h'⟩ a w' := ⟨hh, hs.defers, hs.size, sU⟩
        exact hn _ β' _ w' (hs'.put o.dst hy) hk
      | pan t v =>
        obtain ⟨y, rfl, hy⟩ := hout
        exact hq (.pan t v) _ ⟨σ.r, h'⟩ β' a w' ⟨hh, hs.defers, hs.size, sU⟩ (by simp) ⟨y, rfl, hy⟩ hk
    · split at h
      · rename_i key tab hov
        obtain ⟨f, hf, hcl⟩ := Bz h
        obtain ⟨hb, hcall⟩ := hΓ.gen _ _ _ _ _ hcl
        have hcall := hcall.mono (R' := fun out h' => (match out with | .ret v => k .normal ⟨aP σ.r o.dst v, h'⟩ | .pan t v => k (.pan t v) ⟨σ.r, h'⟩) = some r) fun _ _ h => h.1
        have hx := aG hs x
        rw [hov] at hx
        simp only [V.Rel, L.Rel, List.cons.injEq, and_true, Eo, hf] at hx
        refine zBf ho hx hb hcall hs (fun v h' β' a' w' hk hs' => hn _ β' a' w' hs' hk) (fun t v h' β' w' y hk hs' hy => hq (.pan t v) _ ⟨σ.r, h'⟩ β' a w' hs' (by simp) ⟨y, rfl, hy⟩ hk)
      · cases h
  ·
    rename_i c x y ho
    split at h
    · rename_i b hb
      have hc := aG hs c
      rw [hb] at hc
      simp only [V.Rel, L.Rel, Ty.Rel, List.cons.injEq, and_true] at hc
      have hrun : (execOp a.eval o).run C.P w = .ok (.value (if b then a.eval x else a.eval y)) w := by
        simp only [execOp, ho, hc, asBool, Sem.run_bind, Sem.run_pure, Result.andThen_ok]
      unfold Oper.wp
      rw [hrun, Oper.upon_value]
      rcases qU h with ⟨rfl, hk⟩ | ⟨rfl, hk⟩
      · exact hn _ β _ w (hs.put o.dst (aG hs x)) hk
      · exact hn _ β _ w (hs.put o.dst (aG hs y)) hk
    · cases h
  · split at h
    · rename_i c v h' hst
      obtain ⟨rfl, hk⟩ := mV h
      obtain ⟨β', w', n, v', hrun, hnv, hm, hkp, hs', hv'⟩ := Zd hT hs hst
      unfold Oper.wp
      rw [hrun]
      rcases hnv with rfl | ⟨rfl, rfl⟩
      · rw [Oper.upon_value]
        exact hn _ β' _ w' (hs'.put o.dst hv') hk
      · rw [Oper.upon_skip]
        exact hn _ β' _ w' (hs'.put o.dst hv') hk
    · cases h
theorem zD {ops : Array Oper} {tmps : Array Value} {j s : Nat} {b : Bool} (hs : aO ops j = some s) (ht : tmps.getD s undef = .bool b) : yielded ops tmps j = some b := by
 unfold aO at hs
 cases ho : ops[j]? with
 | none => rw [ho] at hs; cases hs
 | some o =>
  rw [ho] at hs
  simp only [Option.bind_some] at hs
  have ht' : (tmps[s]?).getD undef = .bool b := by rw [<- Array.getD_eq_getD_getElem?]; exact ht
  unfold yielded
  simp only [ho, Option.bind_some, hs]
  cases h2 : tmps[s]? with
  | none => rw [h2] at ht'; simp [undef] at ht'
  | some x => rw [h2] at ht'; simp at ht'; subst ht'; rfl
theorem zF {ops : Array Oper} {tmps : Array Value} {j s : Nat} {us : Array Value} (hs : aO ops j = some s) (ht : tmps.getD s undef = .tuple us) : yielded ops tmps j = none := by
 unfold aO at hs
 cases ho : ops[j]? with
 | none => rw [ho] at hs; cases hs
 | some o =>
  rw [ho] at hs
  simp only [Option.bind_some] at hs
  have ht' : (tmps[s]?).getD undef = .tuple us := by rw [<- Array.getD_eq_getD_getElem?]; exact ht
  unfold yielded
  simp only [ho, Option.bind_some, hs]
  cases h2 : tmps[s]? with
  | none => rfl
  | some x => rw [h2] at ht'; simp at ht'; subst ht'; rfl
theorem Ub {r : List V} {s : Nat} {v : V} (h : r.getD s .aN = v) (hne : v ≠ .aN) : r.set s v = r := by
 have : r[s]? = some v := by
  rw [List.getD_eq_getElem?_getD] at h
  cases hr : r[s]? with
  | none => rw [hr] at h; exact absurd h.symm hne
  | some u => rw [hr] at h; simp at h; rw [h]
 apply List.ext_getElem?
 intro i
 by_cases hi : s = i
 ·subst hi
  rw [List.getElem?_set_self (List.getElem?_eq_some_iff.1 this).1, this]
 ·rw [List.getElem?_set_ne hi]
theorem kE (hT : aT C.P T) (hΓ : eD C.P Γ) {ops : Array Oper} {r : ρ} {Q : Exit -> Act -> World -> Prop} {k : Dec.K ρ}
  (hq : ∀ e x σ' β' a' w', Sim C β' σ' a' w' -> dH β' w' (C.N β' σ'.h) e x -> k e σ' = some r -> Q x a' w') :
  ∀ (l : List Oper) (β : Nat -> Pl) (σ : St) (a : Act) (w : World), lW Γ T ops l σ k = some r -> Sim C β σ a w -> wpList C.P ops Q l a w
 | [], β, σ, a, w, h, hs => hq .normal .normal σ β a w hs rfl h
 | o :: rest, β, σ, a, w, h, hs => by
  simp only [lW] at h
  have zBg : ∀ σ1 : St, σ1 = σ -> (lV Γ T σ1 o fun e σ' => match e with | .normal => lW Γ T ops rest σ' k | e => k e σ') = some r -> o.wp C.P a w (wpList C.P ops Q rest) Q := by
   intro σ1 e1 h1
   subst e1
   refine Eu hT hΓ h1 hs (fun σ' β' a' w' hs' hk => kE hT hΓ hq rest β' σ' a' w' hk hs') ?_
   intro e x σ' β' a' w' hs' hne hx hk
   refine hq e x σ' β' a' w' hs' hx ?_
   cases e <;> first | exact absurd rfl hne | exact hk
  split at h
  ·rename_i hg
   simp only [wpList]
   rw [if_pos (by simp [Region.wanted, hg])]
   exact .inl (zBg σ rfl h)
  ·rename_i j want hg
   split at h
   ·rename_i s hsl
    split at h
    ·rename_i b hb
     have rO : ∃ v, σ.r[s]? = some v ∧ v = .one (.val .bool b) := by
      rw [List.getD_eq_getElem?_getD] at hb
      cases hr : σ.r[s]? with
      | none => rw [hr] at hb; cases hb
      | some v => rw [hr] at hb; exact ⟨v, rfl, hb⟩
     obtain ⟨v, hv, rfl⟩ := rO
     have hval := hs.reg s _ hv
     simp only [V.Rel, L.Rel, Ty.Rel, List.cons.injEq, and_true] at hval
     have hy := zD hsl hval
     have hwant : Region.wanted o (yielded ops a.tmps) = (b == want) := by
      simp only [Region.wanted, hg, hy]
      cases b <;> cases want <;> rfl
     have hset : σ.r.set s (.one (.val .bool b)) = σ.r := Ub hb (by simp)
     simp only [wpList]
     rcases qU h with ⟨rfl, h1⟩ | ⟨rfl, h1⟩
     ·cases want with
      | true =>
       rw [if_pos (by rw [hwant]; rfl)]
       exact .inl (zBg _ (by rw [hset]) h1)
      | false =>
       rw [if_neg (by rw [hwant]; simp)]
       simp only [hset] at h1
       exact kE hT hΓ hq rest β _ _ w h1 (hs.put o.dst (v := .tup []) ⟨[], rfl, trivial⟩)
     ·cases want with
      | false =>
       rw [if_pos (by rw [hwant]; rfl)]
       exact .inl (zBg _ (by rw [hset]) h1)
      | true =>
       rw [if_neg (by rw [hwant]; simp)]
       simp only [hset] at h1
       exact kE hT hΓ hq rest β _ _ w h1 (hs.put o.dst (v := .tup []) ⟨[], rfl, trivial⟩)
    ·rename_i hb
     have rO : σ.r[s]? = some (.tup []) := by
      rw [List.getD_eq_getElem?_getD] at hb
      cases hr : σ.r[s]? with
      | none => rw [hr] at hb; cases hb
      | some v => rw [hr] at hb; simp at hb; rw [hb]
     have hval := hs.reg s _ rO
     obtain ⟨us, hval, hus⟩ := hval
     have hwant : Region.wanted o (yielded ops a.tmps) = false := by
      simp only [Region.wanted, hg, zF hsl hval]
      cases want <;> rfl
     simp only [wpList]
     rw [if_neg (by rw [hwant]; simp)]
     exact kE hT hΓ hq rest β _ _ w h (hs.put o.dst (v := .tup []) ⟨[], rfl, trivial⟩)
    ·cases h
   ·cases h
end sound
end Go.Dec
