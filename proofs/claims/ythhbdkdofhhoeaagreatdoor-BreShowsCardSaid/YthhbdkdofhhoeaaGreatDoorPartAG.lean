/- Part of a proof over this seat: a library of my own, and what it says of this seat. No statement is proved here. -/
import Derived.Test.YthhbdkdofhhoeaaGreatDoorPartAF
import Derived.Lib.AppendStr
namespace Go.Dec
section
variable {β : Nat -> Pl} {w : World} {T : Tab} {C : Ctx}
theorem zEv (w : World) (N : Nat -> Prop) (l : List Int) : aS (fun (x : Int) (c : List Value) => (Ty.int .u8).Rel w N x c) l (l.map fun n => [Value.int .u8 n]) := by
 induction l with
 | nil => trivial
 | cons x l ih => exact ⟨rfl, ih⟩
theorem Um (s : List UInt8) : Lib.strCells ⟨s.toArray⟩ = ((aT s).map fun n => [Value.int .u8 n]).flatten := by
 simp only [Lib.strCells, aT]
 induction s with
 | nil => rfl
 | cons b s ih => simp at ih ⊢; exact ih
theorem Xk {σ : St} {a : Act} {st sx e : TypeId} {ts tx ti : TI} {rows : List Int} {s : List UInt8} {x : Value} {id ver : Nat} (ty : TypeId) (hT : bI C.P T) (hst : T.get st = some ts) (hk : ts.k = .slice e) (hsx : T.get sx = some tx) (hkx : tx.k = .str) (hti : T.get e = some ti) (hsz : ti.size = 1)
    (hby : 0 < ti.bytes) (hroom : (rows.length + s.length) * ti.bytes <= room) (hs : Sim C β σ a w) (ho : σ.h[id]? = some (.arr e (.int .u8) ver rows true)) (hx : dQ (β id) 0 rows.length x) :
    ∃ v' w' β', (Builtin.append_ #[st, sx] ty #[x, .string ⟨s.toArray⟩]).run C.P w = .ok v' w' ∧ Moves β β' ∧ Sim C β' { σ with h := σ.h.set id (.arr e (.int .u8) (ver + 1) (rows ++ aT s) true) } a w' ∧
      (L.own id (ver + 1)).Rel β' w' (C.N β' (σ.h.set id (.arr e (.int .u8) (ver + 1) (rows ++ aT s) true))) [v'] ∧ Keep (C.N β σ.h) w w' := by
  have hu := (hT _ _ hst).slice hk
  obtain ⟨i, z, hi, his, hib, hz, xU, hzs, _⟩ := (hT _ _ hti).i
  have hlen : rows.length + s.length <= (rows.length + s.length) * ti.bytes := Nat.le_mul_of_pos_right _ hby
  have hus := (hT _ _ hsx).str hkx
  have hss : (⟨s.toArray⟩ : ByteArray).size = s.length := by simp [ByteArray.size]
  unfold room at hroom
  have hob := hs.heap.obj _ _ ho
  simp only [Ob.Rel] at hob
  obtain ⟨hlive, kP, hpv, hpz, hpos, hpl, hob⟩ := hob
  have hrl : (rows ++ aT s).length = rows.length + s.length := by simp [aT]
  have fin : ∀ (w' : World) (bk cap : Nat) (cur : Array Value) (css : List (List Value)), (bk = w.heap.size ∧ w.heap.size < w'.heap.size ∨ (β id).blk = some bk) -> Keep (fun k => (β id).blk = some k ∧ True) w w' -> Same w w' ->
      w'.heap[bk]? = some (.cells cur e (0, 0)) -> aS (fun x c => (Ty.int .u8).Rel w (C.N β σ.h) x c) (rows ++ aT s) css -> cur.toList.take ((rows.length + s.length) * 1) = css.flatten -> cur.size = cap * 1 -> rows.length + s.length <= cap -> cap <= maxLen ->
      ∃ β', Moves β β' ∧ Sim C β' { σ with h := σ.h.set id (.arr e (.int .u8) (ver + 1) (rows ++ aT s) true) } a w' ∧
        (L.own id (ver + 1)).Rel β' w' (C.N β' (σ.h.set id (.arr e (.int .u8) (ver + 1) (rows ++ aT s) true))) [.slice (some ⟨bk, 0, none⟩) (rows.length + s.length) cap] := by
    intro w' bk cap cur css hbk hkeep hsame hheap hall htake hcsz hle hm
    let p : Pl := ⟨true, false, ver + 1, some bk, 1, cap, rows.length + s.length⟩
    have hmv : Moves β (upd β id p) := fun j hj => by
      by_cases hji : j = id
      · subst hji
        rw [upd_same]
        exact .inr ⟨kP, rfl, rfl, by rw [hpv]; exact Nat.lt_succ_self _⟩
      · exact .inl (bK _ _ hji)
    have hpb : p.blk = (β id).blk ∨ p.blk = none ∨ (p.blk = some w.heap.size ∧ w.heap.size < w'.heap.size) := by
      rcases hbk with ⟨e1, h2⟩ | e1
      · right; right; exact ⟨by simp only [p, e1], h2⟩
      · left; simp only [p, e1]
    have hkk : Keep (fun k => (β id).blk = some k ∧ Ob.wr (.arr e (.int .u8) ver rows true) = true) w w' := hkeep.weaken fun k hk => ⟨hk.1, rfl⟩
    refine ⟨upd β id p, hmv, hs.set (p := p) ho (fun _ => rfl) hpb hkk hsame hmv ?_, ?_⟩
    · simp only [Ob.Rel]
      refine ⟨rfl, rfl, rfl, rfl, hpos, hrl.symm, .inr ⟨bk, cur, css, rfl, hheap, ?_, by rw [hrl]; exact htake, hcsz, by rw [hrl]; exact hle, hm⟩⟩
      exact hall.mono fun _ _ h => h.mono (hkk.weaken fun k hk => .inr ⟨id, _, ho, rfl, hk.1⟩) fun k hlt hn => vM (w := w) ho (fun _ => rfl) (hpb.imp (fun h => h) (·.imp (fun h => h) (·.1))) hlt hn
    · simp only [L.Rel, upd_same]
      refine ⟨rfl, rfl, Nat.le_refl _, _, rfl, rfl, fun _ => ?_⟩
      unfold dQ
      simp only [p]
      exact ⟨by omega, 0, rfl, .inl (by simp)⟩
  have toK : ∀ {w' : World}, Keep (fun k => (β id).blk = some k ∧ True) w w' -> Keep (C.N β σ.h) w w' := fun h => h.weaken fun k hk => .inr ⟨id, _, ho, rfl, hk.1⟩
  have hcells := Um s
  have hmul : s.length * ti.bytes <= (rows.length + s.length) * ti.bytes := Nat.mul_le_mul_right _ (by omega)
  have hsm : s.length <= 140737488355328 := by omega
  have hsb : s.length * ti.bytes <= 140737488355328 := by omega
  have rZ : aS (fun x c => (Ty.int .u8).Rel w (C.N β σ.h) x c) (aT s) ((aT s).map fun n => [Value.int .u8 n]) := zEv _ _ _
  have hsl : (aT s).length = s.length := by simp [aT]
  have hfy : (Lib.strCells ⟨s.toArray⟩).length = s.length := by rw [Lib.strCells_length, hss]
  rcases hob with ⟨hnb, hr0, hcap0⟩ | ⟨b, cur, css, hb, hheap, hall, htake, hcap, hrc, hcm⟩
  ·
    subst hr0
    unfold dQ at hx
    rw [hnb] at hx
    obtain ⟨rfl, _, _⟩ := hx
    by_cases h0 : s.length = 0
    · have hys : s = [] := List.eq_nil_of_length_eq_zero h0
      subst hys
      have hrun : (Builtin.append_ #[st, sx] ty #[.slice none 0 0, .string ⟨#[]⟩]).run C.P w = .ok (.slice none 0 0) w := by
        have h1 : ByteArray.size ⟨#[]⟩ = 0 := rfl
        simp [Builtin.append_, run_underlying hu, run_underlying hus, Go.sizeOf, typeInfo, hi, Builtin.lenOf, Builtin.firstCells, h1]
      let p : Pl := ⟨true, false, ver + 1, none, 1, 0, 0⟩
      have hmv : Moves β (upd β id p) := fun j hj => by
        by_cases hji : j = id
        · subst hji
          rw [upd_same]
          exact .inr ⟨kP, rfl, rfl, by rw [hpv]; exact Nat.lt_succ_self _⟩
        · exact .inl (bK _ _ hji)
      refine ⟨_, w, upd β id p, hrun, hmv, hs.set (p := p) ho (fun _ => rfl) (.inr (.inl rfl)) (Keep.refl _ w) ⟨rfl, rfl, rfl⟩ hmv ?_, ?_, Keep.refl _ w⟩
      · simp only [Ob.Rel]
        exact ⟨rfl, rfl, rfl, rfl, hpos, by simp [p, aT], .inl ⟨rfl, by simp [aT], rfl⟩⟩
      · simp only [L.Rel, upd_same]
        refine ⟨rfl, rfl, Nat.le_refl _, _, rfl, rfl, fun _ => ?_⟩
        unfold dQ
        simp only [p]
        exact ⟨trivial, trivial, trivial⟩
    · have hrun := run_append_nil_string (P := C.P) w st sx ty e i z hu hus hi hz ⟨s.toArray⟩ (by omega) (by omega) (by rw [hib, hss]; omega)
      have e1 : (s.toArray.map fun b : UInt8 => Value.int .u8 b.toNat) = (Lib.strCells ⟨s.toArray⟩).toArray := by
        apply Array.ext'
        simp [Lib.strCells]
      rw [hss] at hrun
      simp only [e1] at hrun
      have hge := grownCap_ge w s.length 0 e
      have hcm := grownCap_le_maxLen w s.length 0 e (by simp only [maxLen]; omega)
      have hk0 : Keep (fun _ => False) w (w.drew.alloc (.cells ((Lib.strCells ⟨s.toArray⟩).toArray ++ Builtin.zeroCells z.cells (grownCap w s.length 0 e - s.length)) e)) := (tT w).trans (dK w.drew _)
      have hk1 := hk0.weaken (N' := fun k => (β id).blk = some k ∧ True) fun _ h => h.elim
      obtain ⟨β', h1, h2, h3⟩ := fin _ w.heap.size (grownCap w s.length 0 e) _ _ (.inl ⟨rfl, by simp⟩) hk1 ⟨rfl, rfl, rfl⟩ (heap_alloc_new w.drew _) (by simpa using rZ)
        (by rw [<- hcells]; simp only [Array.toList_append, List.length_nil, Nat.zero_add, Nat.mul_one]; rw [List.take_left' hfy])
        (by simp only [Array.size_append, List.size_toArray, size_zeroCells, hzs, hfy, his, hsz, Nat.mul_one]; omega) (by simpa using hge) hcm
      simp only [List.length_nil, Nat.zero_add] at h3
      exact ⟨_, _, β', hrun, h1, h2, h3, toK hk1⟩
  · unfold dQ at hx
    rw [hb] at hx
    obtain ⟨h1, o, rfl, h3⟩ := hx
    have ho0 : o = 0 := by
      rcases h3 with h3 | h3
      · simpa using h3
      · omega
    subst ho0
    rw [Nat.sub_zero]
    have hl := gP hall
    have hcl : css.flatten.length = rows.length := by rw [bY css hl, <- hall.length]; simp [Ty.size]
    have htk : cur.toList.take rows.length = css.flatten := by simpa [Ty.size] using htake
    have hcs : cur.size = (β id).cap := by simpa [Ty.size] using hcap
    by_cases hr : rows.length + s.length <= (β id).cap
    ·
      have hrun := Lib.run_append_room_string (P := C.P) w st sx ty e i hu hus hi (by rw [his, hsz]) b rows.length (β id).cap cur hheap ⟨s.toArray⟩ (by rw [hss]; exact hr) (by rw [hss]; omega)
      rw [hss] at hrun
      have hk1 : Keep (fun k => (β id).blk = some k ∧ True) w (w.setRow b (cur.toList.take rows.length ++ Lib.strCells ⟨s.toArray⟩ ++ cur.toList.drop (rows.length + s.length)).toArray) := mK.weaken fun k hk => by subst hk; exact ⟨hb, trivial⟩
      obtain ⟨β', g1, g2, g3⟩ := fin _ b (β id).cap _ _ (.inr hb) hk1 wP (setRow_heap w b _ _ e _ hheap) (hall.append rZ)
        (by
          rw [htk, List.flatten_append, <- hcells]
          exact List.take_left' (by rw [List.length_append, hcl, hfy, Nat.mul_one]))
        (by
          simp only [List.size_toArray, List.length_append, List.length_take, List.length_drop, Array.length_toList, hfy]
          omega) hr hcm
      exact ⟨_, _, β', hrun, g1, g2, g3, toK hk1⟩
    ·
      have holds : ∀ j u, css.flatten[j]? = some u -> w.cell? ((⟨b, 0, none⟩ : Addr).add j) = some u := qI (by rw [<- htk]; exact (Cells.of_heap hheap).take _)
      have hrun := Lib.run_append_grow_string (P := C.P) w st sx ty e i z hu hus hi hz ⟨b, 0, none⟩ rows.length (β id).cap css.flatten (by rw [hcl, his, hsz, Nat.mul_one]) holds ⟨s.toArray⟩ (by omega) (by omega)
        (growslice_fits (by omega) (by rw [hib, hss]; exact hroom))
      rw [hss] at hrun
      have hge := grownCap_ge w (rows.length + s.length) (β id).cap e
      have hcm' := grownCap_le_maxLen w (rows.length + s.length) (β id).cap e (by simp only [maxLen]; omega)
      have hk0 : Keep (fun _ => False) w (w.drew.alloc (.cells (css.flatten.toArray ++ (Lib.strCells ⟨s.toArray⟩).toArray ++ Builtin.zeroCells z.cells (grownCap w (rows.length + s.length) (β id).cap e - (rows.length + s.length))) e)) := (tT w).trans (dK w.drew _)
      have hk1 := hk0.weaken (N' := fun k => (β id).blk = some k ∧ True) fun _ h => h.elim
      obtain ⟨β', g1, g2, g3⟩ := fin _ w.heap.size (grownCap w (rows.length + s.length) (β id).cap e) _ _ (.inl ⟨rfl, by simp⟩) hk1 ⟨rfl, rfl, rfl⟩ (heap_alloc_new w.drew _) (hall.append rZ)
        (by
          simp only [Array.toList_append, List.flatten_append, <- hcells]
          exact List.take_left' (by rw [List.length_append, hcl, hfy, Nat.mul_one]))
        (by
          simp only [Array.size_append, List.size_toArray, size_zeroCells, hzs, hcl, hfy, his, hsz]
          omega) hge hcm'
      exact ⟨_, _, β', hrun, g1, g2, g3, toK hk1⟩
end
end Go.Dec
