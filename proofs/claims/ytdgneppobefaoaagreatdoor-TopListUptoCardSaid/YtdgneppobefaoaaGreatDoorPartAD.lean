/- Part of a proof over this seat: a library of my own, and what it says of this seat. No statement is proved here. -/
import Derived.Test.YtdgneppobefaoaaGreatDoorPartAC
import Derived.Lib.AppendStr
import Derived.Lib.ConvBytes
import Derived.Laws.BytesArg
namespace Go.Dec
section
variable {β:Nat->Pl} {w:World} {T:Tab} {C:Ctx}
theorem zVx (w:World) (N:Nat->Nat->Prop) (l:List Int):aW (fun (x:Int) (c:List Value)=>(Ty.int .u8).Rel w N x c) l (l.map fun n=>[Value.int .u8 n]):=by
 induction l with
 | nil=>trivial
 | cons x l ih=>exact ⟨rfl,ih⟩
theorem zGl (s:List UInt8):Lib.strCells ⟨s.toArray⟩=((bA s).map fun n=>[Value.int .u8 n]).flatten:=by
 simp only [Lib.strCells,bA]
 induction s with
 | nil=>rfl
 | cons b s ih=>simp at ih ⊢; exact ih
theorem zKr {σ : St} {a : Act} {st sx e : TypeId} {ts tx ti : TI} {rows : List Int} {s : List UInt8} {x : Value} {id ver : Nat} (ty : TypeId) (hT : bK C.P T) (hst : T.get st = some ts) (hk : ts.k = .slice e) (hsx : T.get sx = some tx) (hkx : tx.k = .str) (hti : T.get e = some ti) (hsz : ti.size = 1)
    (hby : 0 < ti.bytes) (hroom : (rows.length + s.length) * ti.bytes <= room) (hs : Sim C β σ a w) (ho : σ.h[id]? = some (.arr e (.int .u8) ver rows true)) (hx : eH (β id) 0 rows.length x) :
    ∃ v' w' β', (Builtin.append_ #[st, sx] ty #[x, .string ⟨s.toArray⟩]).run C.P w = .ok v' w' ∧ Moves β β' ∧ Sim C β' { σ with h := σ.h.set id (.arr e (.int .u8) (ver + 1) (rows ++ bA s) true) } a w' ∧
      (L.own id (ver + 1)).Rel β' w' (C.N β' (σ.h.set id (.arr e (.int .u8) (ver + 1) (rows ++ bA s) true))) [v'] ∧ Keep (C.N β σ.h) w w' := by
  have hu := (hT _ _ hst).slice hk
  obtain ⟨i, z, hi, his, hib, hz, pO, hzs, _⟩ := (hT _ _ hti).i
  have hlen : rows.length + s.length <= (rows.length + s.length) * ti.bytes := Nat.le_mul_of_pos_right _ hby
  have hus := (hT _ _ hsx).str hkx
  have hss : (⟨s.toArray⟩ : ByteArray).size = s.length := by simp [ByteArray.size]
  unfold room at hroom
  have hob := hs.heap.obj _ _ ho
  simp only [Ob.Rel] at hob
  obtain ⟨hlive, uM, hpv, hpz, hpos, hpl, hob⟩ := hob
  have hrl : (rows ++ bA s).length = rows.length + s.length := by simp [bA]
  have fin : ∀ (w' : World) (bk cap : Nat) (cur : Array Value) (css : List (List Value)), (bk = w.heap.size ∧ w.heap.size < w'.heap.size ∨ (β id).blk = some bk) -> Keep (fun k _ => (β id).blk = some k ∧ True) w w' -> Same w w' ->
      w'.heap[bk]? = some (.cells cur e (0, 0)) -> aW (fun x c => (Ty.int .u8).Rel w (C.N β σ.h) x c) (rows ++ bA s) css -> cur.toList.take ((rows.length + s.length) * 1) = css.flatten -> cur.size = cap * 1 -> rows.length + s.length <= cap -> cap <= maxLen ->
      ∃ β', Moves β β' ∧ Sim C β' { σ with h := σ.h.set id (.arr e (.int .u8) (ver + 1) (rows ++ bA s) true) } a w' ∧
        (L.own id (ver + 1)).Rel β' w' (C.N β' (σ.h.set id (.arr e (.int .u8) (ver + 1) (rows ++ bA s) true))) [.slice (some ⟨bk, 0, none⟩) (rows.length + s.length) cap] := by
    intro w' bk cap cur css hbk hkeep hsame hheap hall htake hcsz hle hm
    let p : Pl := ⟨true, false, ver + 1, some bk, 1, cap, rows.length + s.length, []⟩
    have hmv : Moves β (upd β id p) := fun j hj => by
      by_cases hji : j = id
      · subst hji
        rw [upd_same]
        exact .inr ⟨uM, rfl, rfl, by rw [hpv]; exact Nat.lt_succ_self _⟩
      · exact .inl (aK _ _ hji)
    have hpb : p.blk = (β id).blk ∨ p.blk = none ∨ (p.blk = some w.heap.size ∧ w.heap.size < w'.heap.size) := by
      rcases hbk with ⟨e1, h2⟩ | e1
      · right; right; exact ⟨by simp only [p, e1], h2⟩
      · left; simp only [p, e1]
    have hkk : Keep (fun k _ => (β id).blk = some k ∧ Ob.wr (.arr e (.int .u8) ver rows true) = true) w w' := hkeep.weaken fun k _ hk => ⟨hk.1, rfl⟩
    refine ⟨upd β id p, hmv, hs.set (p := p) ho (fun _ => rfl) hpb hkk hsame hmv ?_, ?_⟩
    · simp only [Ob.Rel]
      refine ⟨rfl, rfl, rfl, rfl, hpos, hrl.symm, .inr ⟨bk, cur, css, rfl, hheap, ?_, by rw [hrl]; exact htake, hcsz, by rw [hrl]; exact hle, hm⟩⟩
      exact hall.mono fun _ _ h => h.mono (hkk.weaken fun k _ hk => .inr ⟨id, _, ho, rfl, Ob.nZ hk.1⟩) fun k j hlt hn => vY (w := w) ho (at_set (fun _ => rfl) (hpb.imp (fun h => h) (·.imp (fun h => h) (·.1))) rfl) hlt hn
    · simp only [L.Rel, upd_same]
      refine ⟨rfl, rfl, aJ _, _, rfl, rfl, fun _ => ?_⟩
      unfold eH
      simp only [p]
      exact ⟨by omega, 0, rfl, .inl (by simp)⟩
  have toK : ∀ {w' : World}, Keep (fun k _ => (β id).blk = some k ∧ True) w w' -> Keep (C.N β σ.h) w w' := fun h => h.weaken fun k _ hk => .inr ⟨id, _, ho, rfl, Ob.nZ hk.1⟩
  have hcells := zGl s
  have hmul : s.length * ti.bytes <= (rows.length + s.length) * ti.bytes := Nat.mul_le_mul_right _ (by omega)
  have hsm : s.length <= 140737488355328 := by omega
  have hsb : s.length * ti.bytes <= 140737488355328 := by omega
  have oC : aW (fun x c => (Ty.int .u8).Rel w (C.N β σ.h) x c) (bA s) ((bA s).map fun n => [Value.int .u8 n]) := zVx _ _ _
  have hsl : (bA s).length = s.length := by simp [bA]
  have hfy : (Lib.strCells ⟨s.toArray⟩).length = s.length := by rw [Lib.strCells_length, hss]
  rcases hob with ⟨hnb, hr0, hcap0⟩ | ⟨b, cur, css, hb, hheap, hall, htake, hcap, hrc, hcm⟩
  ·
    subst hr0
    unfold eH at hx
    rw [hnb] at hx
    obtain ⟨rfl, _, _⟩ := hx
    by_cases h0 : s.length = 0
    · have hys : s = [] := List.eq_nil_of_length_eq_zero h0
      subst hys
      have hrun : (Builtin.append_ #[st, sx] ty #[.slice none 0 0, .string ⟨#[]⟩]).run C.P w = .ok (.slice none 0 0) w := by
        have h1 : ByteArray.size ⟨#[]⟩ = 0 := rfl
        simp [Builtin.append_, run_underlying hu, run_underlying hus, Go.sizeOf, typeInfo, hi, Builtin.lenOf, Builtin.firstCells, h1]
      let p : Pl := ⟨true, false, ver + 1, none, 1, 0, 0, []⟩
      have hmv : Moves β (upd β id p) := fun j hj => by
        by_cases hji : j = id
        · subst hji
          rw [upd_same]
          exact .inr ⟨uM, rfl, rfl, by rw [hpv]; exact Nat.lt_succ_self _⟩
        · exact .inl (aK _ _ hji)
      refine ⟨_, w, upd β id p, hrun, hmv, hs.set (p := p) ho (fun _ => rfl) (.inr (.inl rfl)) (Keep.refl _ w) ⟨rfl, rfl, rfl⟩ hmv ?_, ?_, Keep.refl _ w⟩
      · simp only [Ob.Rel]
        exact ⟨rfl, rfl, rfl, rfl, hpos, by simp [p, bA], .inl ⟨rfl, by simp [bA], rfl⟩⟩
      · simp only [L.Rel, upd_same]
        refine ⟨rfl, rfl, aJ _, _, rfl, rfl, fun _ => ?_⟩
        unfold eH
        simp only [p]
        exact ⟨trivial, trivial, trivial⟩
    · have hrun := run_append_nil_string (P := C.P) w st sx ty e i z hu hus hi hz ⟨s.toArray⟩ (by omega) (by omega) (by rw [hib, hss]; omega)
      have e1 : (s.toArray.map fun b : UInt8 => Value.int .u8 b.toNat) = (Lib.strCells ⟨s.toArray⟩).toArray := by
        apply Array.ext'
        simp [Lib.strCells]
      rw [hss] at hrun
      simp only [e1] at hrun
      have hge := grownCap_ge w s.length 0 e
      have hcm := grownCap_le_maxLen w s.length 0 e (by simp only [maxLen]; omega)
      have hk0 : Keep (fun _ _ => False) w (w.drew.alloc (.cells ((Lib.strCells ⟨s.toArray⟩).toArray ++ Builtin.zeroCells z.cells (grownCap w s.length 0 e - s.length)) e)) := (rQ w).trans (dI w.drew _)
      have hk1 := hk0.weaken (N' := fun k _ => (β id).blk = some k ∧ True) fun _ _ h => h.elim
      obtain ⟨β', h1, h2, h3⟩ := fin _ w.heap.size (grownCap w s.length 0 e) _ _ (.inl ⟨rfl, by simp⟩) hk1 ⟨rfl, rfl, rfl⟩ (heap_alloc_new w.drew _) (by simpa using oC)
        (by rw [<- hcells]; simp only [Array.toList_append, List.length_nil, Nat.zero_add, Nat.mul_one]; rw [List.take_left' hfy])
        (by simp only [Array.size_append, List.size_toArray, size_zeroCells, hzs, hfy, his, hsz, Nat.mul_one]; omega) (by simpa using hge) hcm
      simp only [List.length_nil, Nat.zero_add] at h3
      exact ⟨_, _, β', hrun, h1, h2, h3, toK hk1⟩
  · unfold eH at hx
    rw [hb] at hx
    obtain ⟨h1, o, rfl, h3⟩ := hx
    have ho0 : o = 0 := by
      rcases h3 with h3 | h3
      · simpa using h3
      · omega
    subst ho0
    rw [Nat.sub_zero]
    have hl := fQ hall
    have hcl : css.flatten.length = rows.length := by rw [flatten_length css hl, <- hall.length]; simp [Ty.size]
    have htk : cur.toList.take rows.length = css.flatten := by simpa [Ty.size] using htake
    have hcs : cur.size = (β id).cap := by simpa [Ty.size] using hcap
    by_cases hr : rows.length + s.length <= (β id).cap
    ·
      have hrun := Lib.run_append_room_string (P := C.P) w st sx ty e i hu hus hi (by rw [his, hsz]) b rows.length (β id).cap cur hheap ⟨s.toArray⟩ (by rw [hss]; exact hr) (by rw [hss]; omega)
      rw [hss] at hrun
      have hk1 : Keep (fun k _ => (β id).blk = some k ∧ True) w (w.setRow b (cur.toList.take rows.length ++ Lib.strCells ⟨s.toArray⟩ ++ cur.toList.drop (rows.length + s.length)).toArray) := nT.weaken fun k _ hk => by subst hk; exact ⟨hb, trivial⟩
      obtain ⟨β', g1, g2, g3⟩ := fin _ b (β id).cap _ _ (.inr hb) hk1 zU (setRow_heap w b _ _ e _ hheap) (hall.append oC)
        (by
          rw [htk, List.flatten_append, <- hcells]
          exact List.take_left' (by rw [List.length_append, hcl, hfy, Nat.mul_one]))
        (by
          simp only [List.size_toArray, List.length_append, List.length_take, List.length_drop, Array.length_toList, hfy]
          omega) hr hcm
      exact ⟨_, _, β', hrun, g1, g2, g3, toK hk1⟩
    ·
      have holds : ∀ j u, css.flatten[j]? = some u -> w.cell? ((⟨b, 0, none⟩ : Addr).add j) = some u := kZ (by rw [<- htk]; exact (Cells.of_heap hheap).take _)
      have hrun := Lib.run_append_grow_string (P := C.P) w st sx ty e i z hu hus hi hz ⟨b, 0, none⟩ rows.length (β id).cap css.flatten (by rw [hcl, his, hsz, Nat.mul_one]) holds ⟨s.toArray⟩ (by omega) (by omega)
        (growslice_fits (by omega) (by rw [hib, hss]; exact hroom))
      rw [hss] at hrun
      have hge := grownCap_ge w (rows.length + s.length) (β id).cap e
      have hcm' := grownCap_le_maxLen w (rows.length + s.length) (β id).cap e (by simp only [maxLen]; omega)
      have hk0 : Keep (fun _ _ => False) w (w.drew.alloc (.cells (css.flatten.toArray ++ (Lib.strCells ⟨s.toArray⟩).toArray ++ Builtin.zeroCells z.cells (grownCap w (rows.length + s.length) (β id).cap e - (rows.length + s.length))) e)) := (rQ w).trans (dI w.drew _)
      have hk1 := hk0.weaken (N' := fun k _ => (β id).blk = some k ∧ True) fun _ _ h => h.elim
      obtain ⟨β', g1, g2, g3⟩ := fin _ w.heap.size (grownCap w (rows.length + s.length) (β id).cap e) _ _ (.inl ⟨rfl, by simp⟩) hk1 ⟨rfl, rfl, rfl⟩ (heap_alloc_new w.drew _) (hall.append oC)
        (by
          simp only [Array.toList_append, List.flatten_append, <- hcells]
          exact List.take_left' (by rw [List.length_append, hcl, hfy, Nat.mul_one]))
        (by
          simp only [Array.size_append, List.size_toArray, size_zeroCells, hzs, hcl, hfy, his, hsz]
          omega) hge hcm'
      exact ⟨_, _, β', hrun, g1, g2, g3, toK hk1⟩
end
end Go.Dec
namespace Go.Dec
section
variable {β:Nat->Pl} {w:World} {T:Tab} {C:Ctx}
def After (C:Ctx) (β:Nat->Pl) (σ:St) (a:Act) (w:World) (o:Oper) (v:V) (h':List Ob):Prop :=
 ∃ β' w' n v',(execOp a.eval o).run C.P w=.ok n w'∧(n=.value v'∨(n=.skip∧v'=undef))∧Moves β β'∧Keep (C.N β σ.h) w w'∧Sim C β' { σ with h:=h' } a w'∧v.Rel β' w' (C.N β' h') v'
theorem After.read {σ:St} {a:Act} {o:Oper} {v:V} (hs:Sim C β σ a w) (h:∃ v',(execOp a.eval o).run C.P w=.ok (.value v') w∧v.Rel β w (C.N β σ.h) v'):After C β σ a w o v σ.h:=by
 obtain ⟨v',h1,h2⟩:=h
 exact ⟨β,w,_,v',h1,.inl rfl,Moves.refl β,Keep.refl _ w,hs,h2⟩
theorem eP {m:Sem Value} {P:Program} {y:Value} (h:m.run P w=.ok y w):(do pure (Next.value (<- m)):Sem Next).run P w=.ok (.value y) w:=by
 rw [Sem.run_bind,h]; rfl
theorem zMs {σ:St} {a:Act} (hs:Sim C β σ a w):∀ {xs:List Operand} {ls:List L},caps σ xs=some ls->L.dF β w (C.N β σ.h) ls (xs.map a.eval)
 | [],ls,h=>by simp only [caps,aA] at h; subst h; simp only [L.dF,List.map_nil]
 | x :: xs,ls,h=>by
  simp only [caps] at h
  split at h
  ·rename_i l r hl hr
   simp only [aA] at h
   subst h
   simp only [L.dF,List.map_cons]
   have hx:=aS hs x
   rw [hl] at hx
   exact ⟨_,_,rfl,hx,zMs hs hr⟩
  ·cases h
theorem gZ {t e:TypeId} {te:Ty} {ti:TI} (h:elemTy T t=some (e,te,ti)):∃ ts,T.get t=some ts∧ts.k=.slice e∧T.get e=some ti∧ti.ty=some te∧ti.size=te.size∧0 < te.size∧0 < ti.bytes:=by
 unfold elemTy at h
 split at h
 ·rename_i ts hts
  split at h
  ·rename_i e' hk
   split at h
   ·rename_i ti' hti
    split at h
    ·rename_i te' hte
     split at h
     ·rename_i hc
      simp only [aA,aB] at h
      obtain ⟨rfl,rfl,rfl⟩:=h
      simp only [aF] at hc
      obtain ⟨⟨h1,h2⟩,h3⟩:=hc
      exact ⟨ts,hts,hk,hti,hte,aH h1,bM h2,bM h3⟩
     ·cases h
    ·cases h
   ·cases h
  ·cases h
 ·cases h
theorem Tw {σ:St} {a:Act} {te:Ty} (hs:Sim C β σ a w):∀ {k:Nat} {xs:List (Nat × Operand)} {ys:List te.den},elems σ te k xs=some ys ->
  ∃ css,aW (fun x c=>te.Rel w (C.N β σ.h) x c) ys css∧css=xs.map (fun p=>(a.eval p.2).cells.toList)∧∀ i p,xs[i]?=some p->p.1=k+i
 | k,[],ys,h=>by
  simp only [elems,aA] at h
  subst h
  exact ⟨[],trivial,rfl,by simp⟩
 | k,(i,x) :: xs,ys,h=>by
  simp only [elems] at h
  split at h
  ·rename_i hi
   split at h
   ·rename_i ls hls
    split at h
    ·rename_i _ y zs hy hr
     simp only [aA] at h
     subst h
     obtain ⟨css,h1,h2,h3⟩:=Tw hs hr
     have hx:=V.xH hls (aS hs x)
     refine ⟨(a.eval x).cells.toList :: css,⟨jD hy hx,h1⟩,by rw [h2]; rfl,fun j p hp=>?_⟩
     cases j with
     | zero =>
      simp only [List.getElem?_cons_zero,aA] at hp
      subst hp
      exact aH hi
     | succ j =>
      have:=h3 j p (by simpa using hp)
      omega
    ·cases h
   ·cases h
  ·cases h
theorem Zz (size : Nat) : ∀ (ps : List (Nat × Value)) (k : Nat) (cs : Array Value), (∀ i p, ps[i]? = some p -> p.1 = k + i) -> (∀ p ∈ ps, p.2.cells.size = size) -> cs.size = (k + ps.length) * size ->
    ∃ cs' : Array Value, Instr.fill (fun i => some (i * size, size)) cs ps = some cs' ∧ cs'.toList = cs.toList.take (k * size) ++ (ps.map fun p => p.2.cells.toList).flatten
  | [], k, cs, _, _, hs => ⟨cs, rfl, by rw [List.take_of_length_le (by simp at hs ⊢; omega)]; simp⟩
  | (i, v) :: ps, k, cs, h1, h2, hs => by
    have hi : i = k := by have := h1 0 (i, v) rfl; simpa using this
    subst hi
    have hv := h2 (i, v) (.head _)
    have hm : (i + 1 + ps.length) * size <= (i + (ps.length + 1)) * size := Nat.mul_le_mul_right _ (by omega)
    have hm2 : (i + 1) * size <= (i + (ps.length + 1)) * size := Nat.mul_le_mul_right _ (by omega)
    have hsm : (i + 1) * size = i * size + size := Nat.succ_mul _ _
    simp only [List.length_cons] at hs
    rw [Iy _ cs i (i * size) size v ps rfl hv (by omega)]
    have hvl : v.cells.toList.length = size := by simpa using hv
    obtain ⟨cs', h3, h4⟩ := Zz size ps (i + 1) (cs.toList.take (i * size) ++ v.cells.toList ++ cs.toList.drop (i * size + size)).toArray (fun j p hp => by have := h1 (j + 1) p (by simpa using hp); omega) (fun p hp => h2 p (.tail _ hp))
      (by simp only [List.size_toArray, List.length_append, List.length_take, List.length_drop, Array.length_toList, hvl]
          rw [show i + 1 + ps.length = i + (ps.length + 1) by omega]; omega)
    refine ⟨cs', h3, ?_⟩
    rw [h4]
    simp only [List.map_cons, List.flatten_cons]
    rw [List.take_left' (by simp only [List.length_append, List.length_take, Array.length_toList, hvl]; omega)]
    simp
theorem yDv {σ:St} {a:Act} {t:TypeId} {x:Operand} {v:V} (ty:TypeId) (hT:bK C.P T) (hs:Sim C β σ a w) (h:Zy T σ t x=some (true,v)):∃ z,(Builtin.len_ #[t] ty #[a.eval x]).run C.P w=.ok z w∧v.Rel β w (C.N β σ.h) z:=by
 have hx:=aS hs x
 unfold Zy at h
 split at h
 ·rename_i ti l hti hl
  rw [hl] at hx
  have hok:=hT _ _ hti
  split at h
  ·rename_i n e hk
   simp only [aA,aB,true_and] at h
   subst h
   refine ⟨goInt n,?_,by simp only [V.Rel,L.Rel,Ty.Rel,goInt]⟩
   have hu:=hok.arr hk
   simp [Builtin.len_,run_underlying hu]
  ·rename_i hk
   split at h
   ·rename_i s
    simp only [aA,aB,true_and] at h
    subst h
    simp only [V.Rel,L.Rel,Ty.Rel,aL,and_true] at hx
    rw [hx]
    refine ⟨goInt s.length,?_,by simp only [V.Rel,L.Rel,Ty.Rel,goInt]⟩
    have hu:=hok.str hk
    simp [Builtin.len_,run_underlying hu,size_mk]
   ·cases h
  ·rename_i e hk
   split at h
   ·rename_i c n hn
    simp only [aA,aB] at h
    obtain ⟨rfl,rfl⟩:=h
    have hu:=hok.slice hk
    have hx:=Zw hs.heap (show l.Rel β w (C.N β σ.h) [a.eval x] from hx)
    generalize l.view σ.h=l' at hx hn
    have:∃ b c,a.eval x=.slice b n.toNat c∧0 <= n:=by
     unfold yHm at hn
     split at hn
     ·rename_i te xs
      simp only [aA,aB,true_and] at hn
      subst hn
      simp only [L.Rel,Ty.Rel] at hx
      obtain ⟨v',e1,hx⟩:=hx
      simp only [aL,and_true] at e1
      rw [e1]
      rcases hx with ⟨rfl,rfl⟩ | ⟨b,off,cap,css,rfl,_⟩ | ⟨ad,cap,rfl,rfl,_⟩
      ·exact ⟨none,0,rfl,by simp⟩
      ·exact ⟨some ⟨b,off,none⟩,cap,by simp,by omega⟩
      ·exact ⟨some ad,cap,by simp,by simp⟩
     ·simp only [aA,aB,true_and] at hn
      subst hn
      simp only [L.Rel,aL,and_true] at hx
      exact ⟨none,0,by simpa using hx,by simp⟩
     ·rename_i id ver off len
      split at hn
      ·rename_i e' te vv rows wr ho
       simp only [aA,aB] at hn
       obtain ⟨hv,rfl⟩:=hn
       have hv:=aH hv
       have hob:=hs.heap.obj _ _ ho
       simp only [Ob.Rel] at hob
       obtain ⟨_,_,hpv,_⟩:=hob
       simp only [L.Rel] at hx
       obtain ⟨_,_,_,c,hc,_,himp⟩:=hx
       have hsl:=himp (by rw [hpv,hv])
       simp only [aL,and_true] at hc
       subst hc
       unfold eH at hsl
       split at hsl
       ·exact ⟨none,0,by rw [hsl.1,hsl.2.2]; rfl,by omega⟩
       ·obtain ⟨_,o,hsl,_⟩:=hsl
        exact ⟨_,_,by rw [hsl]; simp; exact ⟨rfl,rfl⟩,by omega⟩
      ·cases hn
     ·cases hn
    obtain ⟨b,c,hb,h0⟩:=this
    refine ⟨goInt n,?_,by simp only [V.Rel,L.Rel,Ty.Rel,goInt]⟩
    rw [hb]
    simp [Builtin.len_,run_underlying hu,Int.toNat_of_nonneg h0]
   ·cases h
  ·cases h
 ·cases h
theorem zRs {σ : St} {a : Act} {t : TypeId} {s x : Operand} {v : V} {h' : List Ob} (ty : TypeId) (hT : bK C.P T) (hs : Sim C β σ a w) (h : yS T σ t s x = some (true, v, h')) :
    ∃ β' w' v', (Builtin.append_ #[t, t] ty #[a.eval s, a.eval x]).run C.P w = .ok v' w' ∧ Moves β β' ∧ Keep (C.N β σ.h) w w' ∧ Sim C β' { σ with h := h' } a w' ∧ v.Rel β' w' (C.N β' h') v' := by
  have hx := aS hs x
  have hsl := aS hs s
  unfold yS at h
  split at h
  · rename_i e te ti ls lx het hls hlx
    obtain ⟨ts, hts, hk, hti, _, hsz, hpos, hby⟩ := gZ het
    rw [hlx] at hx
    rw [hls] at hsl
    split at h
    · rename_i c ys hys
      split at h
      ·
        simp only [aA, aB, aF] at h
        obtain ⟨⟨rfl, hroom⟩, rfl, rfl⟩ := h
        have hy := nD hs.heap hys (show lx.Rel β w (C.N β σ.h) [a.eval x] from hx)
        simp only [V.Rel, L.Rel, aL, and_true] at hsl
        rw [hsl]
        obtain ⟨v', w', β', h1, h2, h3, h4, h5⟩ := zKq ty hT hts hk hti hsz hpos hby (bM hroom) hs hy
        exact ⟨β', w', v', h1, h2, h5, h3, h4⟩
      · rename_i id ver
        split at h
        · rename_i e' t' vv rows ho
          split at h
          · rename_i hh
            obtain ⟨e1, e2⟩ := hh
            subst e1 e2
            simp only [aA, aB, aF] at h
            obtain ⟨⟨rfl, hv, hroom⟩, rfl, rfl⟩ := h
            have hv := aH hv
            subst hv
            have hy := nD hs.heap hys (show lx.Rel β w (C.N β σ.h) [a.eval x] from hx)
            have hob := hs.heap.obj _ _ ho
            simp only [Ob.Rel] at hob
            obtain ⟨_, _, hpv, _, _, hpl, _⟩ := hob
            simp only [V.Rel, L.Rel] at hsl
            obtain ⟨_, _, _, c, hc, _, himp⟩ := hsl
            have hso := himp hpv
            simp only [aL, and_true] at hc
            subst hc
            rw [hpl] at hso
            obtain ⟨v', w', β', h1, h2, h3, h4, h5⟩ := Cj ty hT hts hk hti hsz hby (bM hroom) hs ho (aJ _) hso hy
            rw [List.take_length] at h3 h4
            exact ⟨β', w', v', h1, h2, h5, h3, h4⟩
          · cases h
        · cases h
      · rename_i id ver off len
        split at h
        · rename_i e' t' vv rows ho
          split at h
          · rename_i hh
            obtain ⟨e1, e2⟩ := hh
            subst e1 e2
            simp only [aA, aB, aF] at h
            obtain ⟨⟨rfl, hv, hoff, hlen, hroom⟩, rfl, rfl⟩ := h
            have hv := aH hv
            have hoff := aH hoff
            subst hv hoff
            have hy := nD hs.heap hys (show lx.Rel β w (C.N β σ.h) [a.eval x] from hx)
            have hob := hs.heap.obj _ _ ho
            simp only [Ob.Rel] at hob
            obtain ⟨_, _, hpv, _, _, hpl, _⟩ := hob
            simp only [V.Rel, L.Rel] at hsl
            obtain ⟨_, _, _, c, hc, _, himp⟩ := hsl
            have hso := himp hpv
            simp only [aL, and_true] at hc
            subst hc
            obtain ⟨v', w', β', h1, h2, h3, h4, h5⟩ := Cj ty hT hts hk hti hsz hby (bM hroom) hs ho (bM hlen) hso hy
            exact ⟨β', w', v', h1, h2, h5, h3, h4⟩
          · cases h
        · cases h
      · rename_i t' xs
        split at h
        · rename_i e1
          subst e1
          simp only [aA, aB, aF] at h
          obtain ⟨⟨rfl, hroom⟩, rfl, rfl⟩ := h
          have hy := nD hs.heap hys (show lx.Rel β w (C.N β σ.h) [a.eval x] from hx)
          simp only [V.Rel, L.Rel] at hsl
          obtain ⟨v', w', h1, h2, h3, h4⟩ := Mc ty hT hts hk hti hsz hby (bM hroom) hs hsl hy
          exact ⟨β, w', v', h1, Moves.refl β, h2, h3, by simp only [V.Rel, L.Rel]; exact h4⟩
        · cases h
      · cases h
    · cases h
  · cases h
theorem zRt {σ:St} {a:Act} {t t2:TypeId} {s x:Operand} {v:V} {h':List Ob} (ty:TypeId) (hT:bK C.P T) (hs:Sim C β σ a w) (h:Me T σ t t2 s x=some (true,v,h')) :
  ∃ β' w' v',(Builtin.append_ #[t,t2] ty #[a.eval s,a.eval x]).run C.P w=.ok v' w'∧Moves β β'∧Keep (C.N β σ.h) w w'∧Sim C β' { σ with h:=h' } a w'∧v.Rel β' w' (C.N β' h') v':=by
 have hx:=aS hs x
 have hsl:=aS hs s
 unfold Me at h
 split at h
 ·rename_i e _ ti tx id ver u het htx hls hlx
  obtain ⟨ts,hts,hk,hti,_,_,_,hby⟩:=gZ het
  rw [hlx] at hx
  rw [hls] at hsl
  split at h
  ·rename_i e' vv rows hkx ho
   simp only [aA,aB,aF] at h
   obtain ⟨⟨he,hsz,hv,hroom⟩,rfl,rfl⟩:=h
   have he:=aH he
   have hsz:=aH hsz
   have hv:=aH hv
   subst he hv
   have hob:=hs.heap.obj _ _ ho
   simp only [Ob.Rel] at hob
   obtain ⟨_,_,hpv,_,_,hpl,_⟩:=hob
   simp only [V.Rel,L.Rel] at hsl
   obtain ⟨_,_,_,c,hc,_,himp⟩:=hsl
   have hso:=himp hpv
   simp only [aL,and_true] at hc
   subst hc
   rw [hpl] at hso
   simp only [V.Rel,L.Rel,Ty.Rel,aL,and_true] at hx
   rw [hx]
   obtain ⟨v',w',β',h1,h2,h3,h4,h5⟩:=zKr ty hT hts hk htx hkx hti hsz hby (bM hroom) hs ho hso
   exact ⟨β',w',v',h1,h2,h5,h3,h4⟩
  ·cases h
 ·cases h
theorem qU {a:Act} {o:Oper} {b:Builtin} {args:Array Operand} {ts:Array TypeId} {x:Value} {w':World} (ho:o.op=.call { callee:=.builtin b,args,argTypes:=ts })
  (h:(builtin b ts o.type (args.map fun | .const _=>true | _=>false) (args.map a.eval)).run C.P w=.ok (.value x) w'):(execOp a.eval o).run C.P w=.ok (.value x) w':=by
 simp only [execOp,ho,resolve,Sem.run_bind,Sem.run_pure,Result.andThen_ok,invoke]
 exact h
theorem uN {z:Array Value} {size:Nat} (hz:z.size=size) (hpos:0 < size) (k:Nat):(madeCells z (k * size)).toList=(List.replicate k z.toList).flatten:=by
 have hl:∀ c ∈ List.replicate k z.toList,c.length=size:=fun c hc=>by rw [List.eq_of_mem_replicate hc]; simpa using hz
 apply List.ext_getElem?
 intro j
 by_cases hj:j < k * size
 ·have h1:j / size < k:=Nat.div_lt_of_lt_mul (by rw [Nat.mul_comm]; exact hj)
  have h2:j % size < size:=Nat.mod_lt _ hpos
  have h3:=tF (List.replicate k z.toList) hl (j / size) (j % size) (by simpa using h1) h2
  have h4:j / size * size+j % size=j:=by rw [Nat.mul_comm]; exact Nat.div_add_mod j size
  rw [h4] at h3
  rw [h3]
  have h5:j % size < z.size:=by omega
  simp only [madeCells,Array.toList_map,List.getElem?_map,Array.getElem?_toList,hz]
  rw [Array.getElem?_eq_getElem (by simpa using hj)]
  simp [h5]
 ·have h1:(List.replicate k z.toList).flatten.length=k * size:=by rw [flatten_length _ hl]; simp
  have h2:(madeCells z (k * size)).toList.length=k * size:=by simp [size_madeCells]
  rw [List.getElem?_eq_none (by omega),List.getElem?_eq_none (by omega)]
theorem zVy {σ : St} {a : Act} {o : Oper} {v : V} {h' : List Ob} (hT : bK C.P T) (hs : Sim C β σ a w) (h : fA T σ o = some (true, v, h')) : After C β σ a w o v h' := by
  unfold fA at h
  split at h
  ·
    rename_i x ho
    simp only [aA, aB, true_and] at h
    obtain ⟨rfl, rfl⟩ := h
    exact After.read hs ⟨_, by simp only [execOp, ho]; rfl, aS hs x⟩
  · rename_i x ho
    simp only [aA, aB, true_and] at h
    obtain ⟨rfl, rfl⟩ := h
    exact After.read hs ⟨_, by simp only [execOp, ho]; rfl, aS hs x⟩
  ·
    rename_i op _ x ho
    have hx := aS hs x
    split at h
    · rename_i l hl
      rw [hl] at hx
      split at h
      · rename_i c r hr
        simp only [aA, aB] at h
        obtain ⟨rfl, rfl, rfl⟩ := h
        obtain ⟨y, h1, h2⟩ := yLw (C := C) hr hx
        exact After.read hs ⟨y, by simp only [execOp, ho]; exact eP h1, h2⟩
      · cases h
    · cases h
  ·
    rename_i op xt x y _ ho
    split at h
    · rename_i c r hr
      simp only [aA, aB] at h
      obtain ⟨rfl, rfl, rfl⟩ := h
      obtain ⟨z, h1, h2⟩ := yDu hT hs hr
      exact After.read hs ⟨z, by simp only [execOp, ho]; exact eP h1, h2⟩
    · cases h
  ·
    rename_i s d x ho
    split at h
    · rename_i c r hr
      simp only [aA, aB] at h
      obtain ⟨rfl, rfl, rfl⟩ := h
      obtain ⟨z, h1, h2⟩ := yAo hT hs hr
      exact After.read hs ⟨z, by simp only [execOp, ho]; exact eP h1, h2⟩
    · cases h
  ·
    rename_i s x f ho
    have hx := aS hs x
    split at h
    · rename_i ti l hti hl
      rw [hl] at hx
      split at h
      · rename_i fs hk
        split at h
        · rename_i off ft hf
          split at h
          · rename_i tf htf
            split at h
            · rename_i hz
              split at h
              · rename_i c r hr
                simp only [aA, aB] at h
                obtain ⟨rfl, rfl, rfl⟩ := h
                obtain ⟨y, h1, h2⟩ := zMm hT hti hk hf htf (bM hz) hr hs.heap hx
                exact After.read hs ⟨y, by simp only [execOp, ho]; exact eP h1, h2⟩
              · cases h
            · cases h
          · cases h
        · cases h
      · cases h
    · cases h
  ·
    rename_i t x i ho
    have hx := aS hs x
    split at h
    · rename_i ti l k n hti hl hn
      rw [hl] at hx
      split at h
      · rename_i c r hr
        simp only [aA, aB] at h
        obtain ⟨rfl, rfl, rfl⟩ := h
        obtain ⟨y, h1, h2⟩ := zRp (k := k) hT hti hr hs.heap (Zw hs.heap hx)
        exact After.read hs ⟨y, by simp only [execOp, ho, eT hn (aS hs i)]; exact eP h1, h2⟩
      · cases h
    · cases h
  ·
    rename_i t x i ho
    split at h
    · rename_i ti k n hti hn
      split at h
      · rename_i hk
        split at h
        · rename_i c r hr
          simp only [aA, aB] at h
          obtain ⟨rfl, rfl, rfl⟩ := h
          obtain ⟨y, h1, h2⟩ := yJc (σh := σ.h) (k := k) hT hti hk hr (aS hs x)
          exact After.read hs ⟨y, by simp only [execOp, ho, eT hn (aS hs i)]; exact eP h1, h2⟩
        · cases h
      · cases h
    · cases h
  ·
    rename_i t x lo hi ho
    have hx := aS hs x
    split at h
    · rename_i ti l l0 h0 hti hl hlo hhi
      rw [hl] at hx
      have hx2 := Zw hs.heap (show l.Rel β w (C.N β σ.h) [a.eval x] from hx)
      have hb : ∀ (q : Option Operand) (m : Option Int), nC σ q = some m -> ∃ k, q.map a.eval = m.map (.int k) := by
        intro q m hq
        cases q with
        | none => simp only [nC, aA] at hq; subst hq; exact ⟨.i64, rfl⟩
        | some q =>
          simp only [nC] at hq
          split at hq
          · rename_i k n hn
            simp only [aA] at hq
            subst hq
            exact ⟨k, by simp [eT hn (aS hs q)]⟩
          · cases hq
      obtain ⟨kl, hkl⟩ := hb lo l0 hlo
      obtain ⟨kh, hkh⟩ := hb hi h0 hhi
      split at h
      · rename_i c r hr
        have fin : (∀ e, ti.k = .slice e -> ∃ te, T.get e = some te ∧ (∀ a xs, l.view σ.h = .val (.slice a) xs -> a.size = te.size) ∧ (∀ id ver off len, l.view σ.h = .sl id ver off len -> te.size = (β id).size)) -> some (c, V.one r, σ.h) = some (true, v, h') -> After C β σ a w o v h' := by
          intro hte h
          simp only [aA, aB] at h
          obtain ⟨rfl, rfl, rfl⟩ := h
          obtain ⟨y, h1, h2⟩ := yAk (kl := kl) (kh := kh) hT hti hr hs.heap hx2 hte
          exact After.read hs ⟨y, by simp only [execOp, ho, hkl, hkh, Option.map_none]; exact eP h1, h2⟩
        split at h
        · rename_i e hk
          split at h
          · rename_i te hte
            split at h
            · rename_i a0 xs hv
              split at h
              · rename_i hz
                refine fin (fun e' he' => ?_) h
                rw [hk] at he'
                simp only [TK.slice.injEq] at he'
                subst he'
                refine ⟨te, hte, fun a1 ys h1 => ?_, fun id ver off len h1 => ?_⟩
                · rw [hv] at h1
                  simp only [L.val.injEq, Ty.slice.injEq] at h1
                  obtain ⟨rfl, _⟩ := h1
                  exact aH hz
                · rw [hv] at h1; cases h1
              · cases h
            · rename_i id0 yTt yTu yTv hv
              split at h
              · rename_i e0 a0 v0 yTm wr0 ho0
                split at h
                · rename_i hz
                  refine fin (fun e' he' => ?_) h
                  rw [hk] at he'
                  simp only [TK.slice.injEq] at he'
                  subst he'
                  refine ⟨te, hte, fun a1 ys h1 => ?_, fun id ver off len h1 => ?_⟩
                  · rw [hv] at h1; cases h1
                  · rw [hv] at h1
                    simp only [L.sl.injEq] at h1
                    obtain ⟨rfl, _⟩ := h1
                    have hob := hs.heap.obj _ _ ho0
                    simp only [Ob.Rel] at hob
                    obtain ⟨_, _, _, hpz, _⟩ := hob
                    rw [hpz]
                    exact (aH hz).symm
                · cases h
              · cases h
            · cases h
          · cases h
        · rename_i hk
          exact fin (fun e he => by rw [hk] at he; cases he) h
        · cases h
      · cases h
    · cases h
  ·
    rename_i t x hi mx ho
    have hx := aS hs x
    split at h
    · rename_i ti a0 xs k1 n k2 m hti hl hhi hmx
      rw [hl] at hx
      have hh := eT hhi (aS hs hi)
      have hm := eT hmx (aS hs mx)
      split at h
      · rename_i e hk
        split at h
        · rename_i te hte
          split at h
          · rename_i hz
            simp only [aA, aB, aF, decide_eq_true_eq] at h
            obtain ⟨⟨hn, hm2⟩, rfl, rfl⟩ := h
            have hz := aH hz
            have hu := (hT _ _ hti).slice hk
            obtain ⟨y, h1, h2⟩ := yDt (C := C) (t := t) (k1 := k1) (k2 := k2) hT hti hk hte hz.symm hx
            refine After.read hs ⟨y, ?_, by simp only [V.Rel, L.Rel]; exact h2⟩
            simp only [execOp, ho, Option.map_none, Option.map_some, hh, hm, hn, hm2]
            exact eP h1
          · cases h
        · cases h
      · cases h
    · cases h
  ·
    rename_i t parts ho
    split at h
    · rename_i c r hr
      simp only [aA, aB] at h
      obtain ⟨rfl, rfl, rfl⟩ := h
      obtain ⟨z, h1, h2⟩ := zVw hT hs hr
      exact After.read hs ⟨z, by simp only [execOp, ho]; exact eP h1, h2⟩
    · cases h
  ·
    rename_i x i ho
    split at h
    · rename_i r hr
      simp only [aA, aB, true_and] at h
      obtain ⟨rfl, rfl⟩ := h
      obtain ⟨z, h1, h2⟩ := yJg (C := C) hr (aS hs x)
      exact After.read hs ⟨z, by simp only [execOp, ho]; exact eP h1, h2⟩
    · cases h
  ·
    rename_i t x ho
    have hx := aS hs x
    split at h
    · rename_i l hl
      rw [hl] at hx
      split at h
      · rename_i c r hr
        simp only [aA, aB] at h
        obtain ⟨rfl, rfl, rfl⟩ := h
        obtain ⟨z, h1, h2⟩ := Dn hT hr hs.heap hx
        exact After.read hs ⟨z, by simp only [execOp, ho]; exact eP h1, h2⟩
      · cases h
    · cases h
  ·
    rename_i t x y ho
    have hx := aS hs x
    split at h
    · rename_i l hl
      rw [hl] at hx
      split at h
      · rename_i c r hr
        simp only [aA, aB] at h
        obtain ⟨rfl, rfl, rfl⟩ := h
        obtain ⟨w', h1, h2, h3⟩ := zRr hT hr hs hx (aS hs y)
        exact ⟨β, w', .skip, undef, by simp only [execOp, ho, Sem.run_bind, h1, Result.andThen_ok, Sem.run_pure], .inr ⟨rfl, rfl⟩, Moves.refl β, h3, h2, trivial⟩
      · cases h
    · cases h
  ·
    rename_i x ho
    have hx := aS hs x
    have fin : ∀ l : L, ovl σ x = .one l -> (∃ b, a.eval x = .pointer (some b)) ∨ (∃ f p q, a.eval x = .func (.func f) p q) -> After C β σ a w o (.one l) σ.h := by
      intro l hl hp
      rw [hl] at hx
      refine After.read hs ⟨a.eval x, ?_, hx⟩
      rcases hp with ⟨b, hb⟩ | ⟨f, p, q, hb⟩ <;> (simp only [execOp, ho, hb]; rfl)
    split at h
    · rename_i id off hl
      simp only [aA, aB, true_and] at h
      obtain ⟨rfl, rfl⟩ := h
      refine fin _ hl (.inl ?_)
      rw [hl] at hx
      simp only [V.Rel, L.Rel, aL, and_true] at hx
      obtain ⟨_, _, b, _, hx⟩ := hx
      exact ⟨_, hx⟩
    · rename_i id off es i sub hl
      simp only [aA, aB, true_and] at h
      obtain ⟨rfl, rfl⟩ := h
      refine fin _ hl (.inl ?_)
      rw [hl] at hx
      simp only [V.Rel, L.Rel, aL, and_true] at hx
      obtain ⟨_, _, b, _, hx⟩ := hx
      exact ⟨_, hx⟩
    · rename_i t y off hl
      simp only [aA, aB, true_and] at h
      obtain ⟨rfl, rfl⟩ := h
      refine fin _ hl (.inl ?_)
      rw [hl] at hx
      simp only [V.Rel, L.Rel, aL, and_true] at hx
      obtain ⟨c, hx, b, o', cs, rfl, _⟩ := hx
      exact ⟨_, hx⟩
    · rename_i f cs hl
      simp only [aA, aB, true_and] at h
      obtain ⟨rfl, rfl⟩ := h
      refine fin _ hl (.inr ?_)
      rw [hl] at hx
      simp only [V.Rel, L.Rel, aL, and_true] at hx
      obtain ⟨us, hx, _⟩ := hx
      exact ⟨_, _, _, hx⟩
    · rename_i f p q hl
      simp only [aA, aB, true_and] at h
      obtain ⟨rfl, rfl⟩ := h
      refine fin _ hl (.inr ?_)
      rw [hl] at hx
      simp only [V.Rel, L.Rel, Ty.Rel, aL, and_true] at hx
      exact ⟨_, _, _, hx.1⟩
    · cases h
  ·
    rename_i f first cs ho
    split at h
    · rename_i h0
      split at h
      · rename_i ls hls
        simp only [aA, aB, true_and] at h
        obtain ⟨rfl, rfl⟩ := h
        have hr := zMs hs hls
        refine After.read hs ⟨.func (.func f) #[] (cs.map a.eval), ?_, ?_⟩
        · have : first = #[] := Array.eq_empty_of_size_eq_zero h0
          subst this
          simp only [execOp, ho, Instr.makeFunc, Array.map_empty]
          rfl
        · simp only [V.Rel, L.Rel]
          exact ⟨_, by rw [<- Array.toList_map], hr⟩
      · cases h
    · cases h
  ·
    rename_i e x ho
    split at h
    · rename_i ls hls
      simp only [aA, aB, true_and] at h
      obtain ⟨rfl, rfl⟩ := h
      have hr := V.xH hls (aS hs x)
      obtain ⟨β', h1, h2, h3⟩ := yAl (e := e) hs hr
      refine ⟨β', _, _, .pointer (some ⟨w.heap.size, 0, none⟩), ?_, .inl rfl, h1, (dI w _).weaken fun _ _ h => h.elim, h2, h3⟩
      simp only [execOp, ho, Instr.box, newVar, newRow, Sem.run_bind, run_newObj, Result.andThen_ok, Sem.run_pure]
      rfl
    · cases h
  ·
    rename_i e ho
    split at h
    · rename_i ti hti
      simp only [aA, aB, true_and] at h
      obtain ⟨rfl, rfl⟩ := h
      obtain ⟨i, z, hi, his, hib, hz, pO, hzs, _⟩ := (hT _ _ hti).i
      obtain ⟨β', h1, h2, h3⟩ := yAl (e := e) hs (pO β w (C.N β σ.h))
      refine ⟨β', _, _, .pointer (some ⟨w.heap.size, 0, none⟩), ?_, .inl rfl, h1, (dI w _).weaken fun _ _ h => h.elim, h2, h3⟩
      have hzv : (zeroValue e).run C.P w = .ok z w := by simp [zeroValue, typeInfo, hi, hz]
      simp only [execOp, ho, Instr.alloc, Sem.run_bind, hzv, Result.andThen_ok, newVar, newRow, run_newObj, Sem.run_pure]
      rfl
    · cases h
  ·
    rename_i t n parts ho
    split at h
    · rename_i e te ti het
      obtain ⟨ts, hts, hk, hti, zVz, hsz, hpos, hby⟩ := gZ het
      split at h
      · rename_i hc
        simp only [aF] at hc
        have hn := aH hc.1
        have hle := bM hc.2
        split at h
        · rename_i ys hys
          simp only [aA, aB, true_and] at h
          obtain ⟨rfl, rfl⟩ := h
          obtain ⟨css, h1, h2, h3⟩ := Tw hs hys
          obtain ⟨i, z, hi, his, hib, hz, pO, hzs, _⟩ := (hT _ _ hti).i
          have hlc := fQ h1
          have hps : ∀ p ∈ parts.toList.map (fun p => (p.1, a.eval p.2)), p.2.cells.size = te.size := fun p hp => by
            obtain ⟨q, hq, rfl⟩ := List.mem_map.1 hp
            have := hlc (a.eval q.2).cells.toList (by rw [h2]; exact List.mem_map.2 ⟨q, hq, rfl⟩)
            simpa using this
          have Om : ys.length = parts.size := by rw [h1.length, h2]; simp
          obtain ⟨cs', hf1, hf2⟩ := Zz te.size (parts.toList.map fun p => (p.1, a.eval p.2)) 0 ((Array.range (n * te.size)).map (z.cells[· % z.cells.size]!)) (fun j p hp => by
            simp only [List.getElem?_map, Option.map_eq_some_iff] at hp
            obtain ⟨q, hq, rfl⟩ := hp
            have := h3 j q hq
            omega) hps (by simp [hn])
          simp only [Nat.zero_mul, List.take_zero, List.nil_append, List.map_map] at hf2
          obtain ⟨β', g1, g2, g3⟩ := zMo (e := e) (cs := cs') hs hpos h1 (by rw [hf2, h2]; rfl) (by
            rw [Om, <- hn]
            have : n * 1 <= n * te.size := Nat.mul_le_mul_left _ hpos
            simp only [maxLen]; omega)
          refine ⟨β', _, _, .slice (some ⟨w.heap.size, 0, none⟩) ys.length ys.length, ?_, .inl rfl, g1, (dI w _).weaken fun _ _ h => h.elim, g2, g3⟩
          have hu := (hT _ _ hts).slice hk
          have hzv : (zeroValue e).run C.P w = .ok z w := by simp [zeroValue, typeInfo, hi, hz]
          have yDw : ¬ (n * te.size > 2 ^ 24) := by omega
          simp only [execOp, ho, Instr.buildSlice, Sem.run_bind, run_underlying hu, Result.andThen_ok, (hT _ _ hti).sizeOf, hsz, yDw, if_false, Sem.run_pure]
          by_cases h0 : n * te.size = 0
          · have hn0 : n = 0 := by
              rcases Nat.mul_eq_zero.1 h0 with h | h
              · exact h
              · omega
            have hpe : parts = #[] := Array.eq_empty_of_size_eq_zero (by omega)
            subst hpe
            subst hn0
            have yDx : ys = [] := List.eq_nil_of_length_eq_zero (by simpa using Om)
            subst yDx
            have yDy : cs' = #[] := by simpa using hf2
            subst yDy
            simp [Instr.fill, newRow, show Array.range 0 = #[] from rfl]
            try rfl
          · simp only [h0, if_false, Sem.run_bind, hzv, Result.andThen_ok, Sem.run_pure]
            rw [Array.toList_map, hf1]
            simp only [Sem.run_bind, newRow, run_newObj, Result.andThen_ok, Sem.run_pure, Om, hn]
            rfl
        · cases h
      · cases h
    · cases h
  ·
    rename_i t l c ho
    split at h
    · rename_i e te ti n m het hn hm
      obtain ⟨ts, hts, hk, hti, zVz, hsz, hpos, hby⟩ := gZ het
      split at h
      · rename_i z0 hz0
        simp only [aA, aB, aF] at h
        obtain ⟨⟨h0, hnm, hroom⟩, rfl, rfl⟩ := h
        have h0 := of_decide_eq_true h0
        have hnm := of_decide_eq_true hnm
        have hroom := bM hroom
        subst hnm
        obtain ⟨i, z, hi, his, hib, hz, pO, hzs, _⟩ := (hT _ _ hti).i
        have hu := (hT _ _ hts).slice hk
        have hrz := jD hz0 (pO β w (C.N β σ.h))
        obtain ⟨k, rfl⟩ : ∃ k : Nat, n = k := ⟨n.toNat, by omega⟩
        rw [Int.toNat_natCast] at hroom
        unfold room at hroom
        have hkb : k <= k * ti.bytes := Nat.le_mul_of_pos_right _ hby
        have hrun := run_make (P := C.P) w t e i z hu hi hz .i64 .i64 (k : Int) (k : Int) (by omega) (Int.le_refl _) (by
          have h : ((i.bytes * k : Nat) : Int) <= 281474976710656 := by rw [hib, Nat.mul_comm]; omega
          rwa [Int.natCast_mul] at h) (by omega)
        simp only [Int.toNat_natCast] at hrun
        have hzz : z.cells.size = te.size := by rw [hzs, his, hsz]
        have hal : aW (fun x c => te.Rel w (C.N β σ.h) x c) (List.replicate k z0) (List.replicate k z.cells.toList) := aW.replicate hrz k
        obtain ⟨β', g1, g2, g3⟩ := zMo (e := e) (cs := madeCells z.cells (k * i.size)) hs hpos hal (by rw [his, hsz]; exact uN hzz hpos k) (by simp only [List.length_replicate, maxLen]; omega)
        rw [List.length_replicate] at g3
        refine ⟨β', _, _, .slice (some ⟨w.heap.size, 0, none⟩) k k, ?_, .inl rfl, g1, (dI w _).weaken fun _ _ h => h.elim, g2, g3⟩
        simp only [execOp, ho, eT hn (aS hs l), eT hm (aS hs c), Sem.run_bind, hrun]
        rfl
      · cases h
    · cases h
  ·
    rename_i b args ts ho
    split at h
    · rename_i x t hargs hts
      split at h
      · rename_i c r hr
        simp only [aA, aB] at h
        obtain ⟨rfl, rfl, rfl⟩ := h
        have e1 : args = #[x] := by apply Array.toList_inj.1; simpa using hargs
        have e2 : ts = #[t] := by apply Array.toList_inj.1; simpa using hts
        subst e1 e2
        obtain ⟨z, h1, h2⟩ := yDv o.type hT hs hr
        exact After.read hs ⟨z, qU ho (eP (by simpa using h1)), h2⟩
      · cases h
    · rename_i s x t t' hargs hts
      split at h
      · rename_i htt
        have htt := aH htt
        subst htt
        have e1 : args = #[s, x] := by apply Array.toList_inj.1; simpa using hargs
        have e2 : ts = #[t, t] := by apply Array.toList_inj.1; simpa using hts
        subst e1 e2
        obtain ⟨β', w', v', h1, h2, h3, h4, h5⟩ := zRs o.type hT hs h
        refine ⟨β', w', _, v', qU (x := v') ho ?_, .inl rfl, h2, h3, h4, h5⟩
        simp only [builtin, Sem.run_bind]
        have h1' : (Builtin.append_ #[t, t] o.type (Array.map a.eval #[s, x])).run C.P w = .ok v' w' := by simpa using h1
        rw [h1']
        rfl
      · have e1 : args = #[s, x] := by apply Array.toList_inj.1; simpa using hargs
        have e2 : ts = #[t, t'] := by apply Array.toList_inj.1; simpa using hts
        subst e1 e2
        obtain ⟨β', w', v', h1, h2, h3, h4, h5⟩ := zRt o.type hT hs h
        refine ⟨β', w', _, v', qU (x := v') ho ?_, .inl rfl, h2, h3, h4, h5⟩
        simp only [builtin, Sem.run_bind]
        have h1' : (Builtin.append_ #[t, t'] o.type (Array.map a.eval #[s, x])).run C.P w = .ok v' w' := by simpa using h1
        rw [h1']
        rfl
    · rename_i x y hargs
      split at h
      · rename_i k p k2 q hp hq
        simp only [aA, aB, true_and] at h
        obtain ⟨rfl, rfl⟩ := h
        have e1 : args = #[x, y] := by apply Array.toList_inj.1; simpa using hargs
        subst e1
        have hx := eT hp (aS hs x)
        have hy := eT hq (aS hs y)
        refine After.read hs ⟨.int k (if q < p then q else p), qU ho ?_, by simp only [V.Rel, L.Rel, Ty.Rel]⟩
        simp [builtin, Builtin.min_, Builtin.min2, hx, hy]
      · cases h
    · rename_i x y hargs
      split at h
      · rename_i k p k2 q hp hq
        simp only [aA, aB, true_and] at h
        obtain ⟨rfl, rfl⟩ := h
        have e1 : args = #[x, y] := by apply Array.toList_inj.1; simpa using hargs
        subst e1
        have hx := eT hp (aS hs x)
        have hy := eT hq (aS hs y)
        refine After.read hs ⟨.int k (if q > p then q else p), qU ho ?_, by simp only [V.Rel, L.Rel, Ty.Rel]⟩
        simp [builtin, Builtin.max_, Builtin.max2, hx, hy]
      · cases h
    · cases h
  · cases h
end
end Go.Dec
namespace Go.Dec
def isM (o:Oper):Bool:=match o.op with
 | .makeMap .. => true
 | .insert .. => true
 | .lookup .. => true
 | _=>false
def keyOf:V->Option MK
 | .one (.val (.int k) n)=>some (.i k n)
 | .one (.val .str s)=>some (.s s)
 | _=>none
def yDz:V->Option Nat
 | .one (.clo f [])=>some f
 | _=>none
def memT:List (MK × Nat)->MK->Bool
 | [],_=>false
 | (a,_) :: r,x=>MK.beq x a || memT r x
def Dq (tk:TK) (x:MK):Bool:=match tk,x with
 | .int k,.i k' _=>decide (k=k')
 | .str,.s _=>true
 | _,_=>false
def Tx (tk:TK):List (MK × Nat)->Bool
 | []=>true
 | (a,_) :: r=>Dq tk a && Tx tk r
def stepM (T:Tab) (σ:St) (o:Oper):Option (Bool × V × List Ob) :=
 match o.op with
 | .makeMap _ none=>some (true,.one (.mp σ.h.length),σ.h++[.fm []])
 | .insert t m k x=>match T.get t,ovl σ m,keyOf (ovl σ k),yDz (ovl σ x) with
  | some ti,.one (.mp id),some key,some f=>match ti.k,σ.h[id]? with
   | .map kt _,some (.fm tab)=>match T.get kt with
    | some tk=>match Dq tk.k key && (Tx tk.k tab && !memT tab key) with
     | true=>some (true,.tup [],σ.h.set id (.fm (tab++[(key,f)])))
     | false=>none
    | none=>none
   | _,_=>none
  | _,_,_,_=>none
 | .lookup t m k true=>match T.get t,ovl σ m,keyOf (ovl σ k) with
  | some ti,.one (.mp id),some key=>match ti.k,σ.h[id]? with
   | .map kt et,some (.fm tab)=>match T.get kt,T.get et with
    | some tk,some te=>match Dq tk.k key && (Tx tk.k tab && !te.k.isAgg),te.zls with
     | true,[.val .opq .nilFunc]=>some (true,.tup [.inl (.Ci key tab),.inl (.val .bool (memT tab key))],σ.h)
     | _,_=>none
    | _,_=>none
   | _,_=>none
  | _,_,_=>none
 | _=>none
section
variable {β:Nat->Pl} {w:World} {T:Tab} {C:Ctx}
theorem bytes_beq (b c:List UInt8):((⟨b.toArray⟩:ByteArray) == ⟨c.toArray⟩)=(b == c):=by
 show (b.toArray == c.toArray)=_
 rw [Bool.eq_iff_iff]
 simp
theorem zMt {d:TypeDesc} {x a:MK} (hx:Dq (TK.of d) x=true) (ha:Dq (TK.of d) a=true):Instr.sameNow d x.v a.v=some (MK.beq x a):=by
 cases d <;> simp only [TK.of,Dq] at hx ha <;> try (cases x <;> simp at hx)
 ·cases a <;> simp at ha
  subst hx ha
  simp [Instr.sameNow,MK.v,MK.beq]
 ·cases a <;> simp at ha
  simp only [Instr.sameNow,MK.v,MK.beq,bytes_beq]
def mP (q:MK × Nat):Value × Value:=(q.1.v,.func (.func q.2) #[] #[])
theorem Tz:∀ (tab:List (MK × Nat)) (x:MK),memT tab x=(xG tab x).isSome
 | [],_=>rfl
 | (a,f) :: r,x=>by
  simp only [memT,xG]
  cases h:MK.beq x a
  ·simp [Tz r x]
  ·simp
theorem Kh {d:TypeDesc} {x:MK} (hx:Dq (TK.of d) x=true):∀ (es:List MapEntry) (tab:List (MK × Nat)) (i:Nat),es.map (fun e=>(e.key,e.val))=tab.map mP->Tx (TK.of d) tab=true ->
  ∃ r,Instr.findNow d x.v es i=some r∧(match xG tab x with | some f=>∃ j,r=some (j,.func (.func f) #[] #[]) | none=>r=none)
 | [],[],i,_,_=>⟨none,rfl,rfl⟩
 | [],_ :: _,_,h,_=>by simp at h
 | _ :: _,[],_,h,_=>by simp at h
 | e :: es,(a,f) :: tab,i,h,hk=>by
  simp only [List.map_cons,aL,mP,aB] at h
  obtain ⟨⟨h1,h2⟩,h3⟩:=h
  simp only [Tx,aF] at hk
  simp only [Instr.findNow,h1,zMt hx hk.1,xG]
  cases hb:MK.beq x a
  ·simp only [Bool.false_eq_true,if_false]
   exact Kh hx es tab (i+1) h3 hk.2
  ·exact ⟨_,rfl,i,by rw [h2]⟩
theorem lN {P:Program} {t:TypeId} {d:TypeDesc} {x:MK} {b:Bool} {n:Nat} (hu:P.underlying t=some d) (hx:Dq (TK.of d) x=true):(Instr.checkKey b (n+1) t x.v).run P w=.ok () w:=by
 have hr:(underlying t).run P w=.ok d w:=by simp [underlying,hu]
 simp only [Instr.checkKey,Sem.run_bind,hr,Result.andThen_ok]
 cases d <;> simp only [TK.of,Dq] at hx <;> try (cases x <;> simp at hx)
 all_goals simp [MK.v]
theorem zIz {v:V} {key:MK} {x:Value} {N:Nat->Nat->Prop} (h:keyOf v=some key) (hr:v.Rel β w N x):x=key.v:=by
 unfold keyOf at h
 split at h
 ·simp only [aA] at h
  subst h
  simp only [V.Rel,L.Rel,Ty.Rel,aL,and_true] at hr
  exact hr
 ·simp only [aA] at h
  subst h
  simp only [V.Rel,L.Rel,Ty.Rel,aL,and_true] at hr
  exact hr
 ·cases h
theorem yEa {v:V} {f:Nat} {x:Value} {N:Nat->Nat->Prop} (h:yDz v=some f) (hr:v.Rel β w N x):x=.func (.func f) #[] #[]:=by
 unfold yDz at h
 split at h
 ·simp only [aA] at h
  subst h
  simp only [V.Rel,L.Rel,L.dF] at hr
  obtain ⟨us,hx,rfl⟩:=hr
  simpa using hx
 ·cases h
theorem yAp {σ:St} {a:Act} {o:Oper} {v:V} {h':List Ob} (hT:bK C.P T) (hs:Sim C β σ a w) (h:stepM T σ o=some (true,v,h')):After C β σ a w o v h':=by
 unfold stepM at h
 split at h
 ·rename_i t ho
  simp only [aA,aB,true_and] at h
  obtain ⟨rfl,rfl⟩:=h
  let p:Pl:=⟨true,true,0,some w.heap.size,0,0,0,[]⟩
  refine ⟨upd β σ.h.length p,w.alloc (.map #[] 0),.value (.map (some w.heap.size)),.map (some w.heap.size),?_,.inl rfl,kY hs.heap p,(dI w _).weaken fun _ _ h=>h.elim,hs.push (p:=p) (.inr ⟨rfl,by simp⟩) (dI w _) (Dp _ _) ?_,?_⟩
  ·simp only [execOp,ho,Instr.makeMap,Option.map_none,Sem.run_bind,run_newObj,Result.andThen_ok,Sem.run_pure]
   rfl
  ·simp only [Ob.Rel]
   exact ⟨rfl,rfl,w.heap.size,#[],0,rfl,by rw [heap_alloc_new],rfl⟩
  ·simp only [V.Rel,L.Rel,upd_same]
   exact ⟨rfl,rfl,w.heap.size,rfl,rfl⟩
 ·rename_i t m k x ho
  split at h
  ·rename_i ti id key f hti hm hkey hf
   split at h
   ·rename_i kt et tab hk hob
    split at h
    ·rename_i tk htk
     split at h
     ·rename_i hb
      simp only [aF,Bool.not_eq_true'] at hb
      obtain ⟨b1,b2,b3⟩:=hb
      simp only [aA,aB,true_and] at h
      obtain ⟨rfl,rfl⟩:=h
      obtain ⟨d,hd,hdk⟩:=(hT _ _ hti).und
      obtain ⟨dk,zMu,yEb⟩:=(hT _ _ htk).und
      have hO:=hs.heap.obj id _ hob
      simp only [Ob.Rel] at hO
      obtain ⟨o1,o2,b,es,n,o3,o4,o5⟩:=hO
      have hmv:=aS hs m
      rw [hm] at hmv
      simp only [V.Rel,L.Rel] at hmv
      obtain ⟨_,_,b',e1,e2⟩:=hmv
      rw [o3] at e1
      obtain rfl:=Option.some.inj e1
      simp only [aL,and_true] at e2
      have hkv:=zIz hkey (aS hs k)
      have hfv:=yEa hf (aS hs x)
      obtain rfl:d=.map kt et:=by
       rw [hk] at hdk
       cases d <;> simp [TK.of] at hdk
       obtain ⟨rfl,rfl⟩:=hdk
       rfl
      have hnone:xG tab key=none:=by
       have:=Tz tab key
       rw [b3] at this
       cases hq:xG tab key with
       | none=>rfl
       | some q=>rw [hq] at this; simp at this
      rw [<- yEb] at b1 b2
      obtain ⟨r,hr,hr2⟩:=Kh b1 es.toList tab 0 o5 b2
      rw [hnone] at hr2
      subst hr2
      have hb:b < w.heap.size:=(Array.getElem?_eq_some_iff.1 o4).1
      let ne:MapEntry:={ key:=key.v,val:=.func (.func f) #[] #[],born:=n }
      let w':World:={ w with heap:=w.heap.setIfInBounds b (.map (es.push ne) (n+1)) }
      have hu1:(underlying t).run C.P w=.ok (.map kt et) w:=by simp [underlying,hd]
      have hu2:(underlying kt).run C.P w=.ok dk w:=by simp [underlying,zMu]
      have hget:(getObj b).run C.P w=.ok (.map es n) w:=by simp [getObj,Sem.run,o4]
      have hset:(setObj b (.map (es.push ne) (n+1))).run C.P w=.ok () w':=by simp [setObj,Sem.run,o4,w']
      have hck:=lN (w:=w) (b:=false) (n:=9999) zMu b1
      have hkeep:Keep (fun k _=>k=b) w w':=Keep.mV (M:=fun k=>k=b) (by simp [w']) (fun k _ hn=>by simp only [w']; rw [Array.getElem?_setIfInBounds_ne (fun e=>hn e.symm)]) (fun _ _ h=>h)
      have hm0:Moves β (upd β id (β id)):=by rw [yR]; exact Moves.refl β
      have zGm:=hs.set (id:=id) (o:=.fm (tab++[(key,f)])) (p:=β id) (w':=w') hob (fun _=>rfl) (.inl rfl) (hkeep.weaken fun k _ hk=>by subst hk; exact ⟨o3,rfl⟩) ⟨rfl,rfl,rfl⟩ hm0 (by
       simp only [Ob.Rel]
       refine ⟨o1,o2,b,es.push ne,n+1,o3,by simp only [w']; rw [Array.getElem?_setIfInBounds_self_of_lt hb],?_⟩
       simp only [Array.toList_push,List.map_append,o5,List.map_cons,List.map_nil,ne])
      rw [yR] at zGm
      refine ⟨β,w',.skip,undef,?_,.inr ⟨rfl,rfl⟩,Moves.refl β,hkeep.weaken fun k _ hk=>.inr ⟨id,_,hob,rfl,Ob.nZ (by rw [hk]; exact o3)⟩,zGm,?_⟩
      ·simp only [execOp,ho,e2,hkv,hfv,Instr.mapUpdate,Sem.run_bind,hu1,Result.andThen_ok,hget,hck,Instr.findKey,hu2,hr,Sem.run_pure,hset,ne]
      ·exact ⟨[],rfl,trivial⟩
     ·cases h
    ·cases h
   ·cases h
  ·cases h
 ·rename_i t m k ho
  split at h
  ·rename_i ti id key hti hm hkey
   split at h
   ·rename_i kt et tab hk hob
    split at h
    ·rename_i tk te htk hte
     split at h
     ·rename_i hb hz
      simp only [aF,Bool.not_eq_true'] at hb
      obtain ⟨b1,b2,b3⟩:=hb
      simp only [aA,aB,true_and] at h
      obtain ⟨rfl,rfl⟩:=h
      obtain ⟨d,hd,hdk⟩:=(hT _ _ hti).und
      obtain ⟨dk,zMu,yEb⟩:=(hT _ _ htk).und
      have hO:=hs.heap.obj id _ hob
      simp only [Ob.Rel] at hO
      obtain ⟨o1,o2,b,es,n,o3,o4,o5⟩:=hO
      have hmv:=aS hs m
      rw [hm] at hmv
      simp only [V.Rel,L.Rel] at hmv
      obtain ⟨_,_,b',e1,e2⟩:=hmv
      rw [o3] at e1
      obtain rfl:=Option.some.inj e1
      simp only [aL,and_true] at e2
      have hkv:=zIz hkey (aS hs k)
      obtain rfl:d=.map kt et:=by
       rw [hk] at hdk
       cases d <;> simp [TK.of] at hdk
       obtain ⟨rfl,rfl⟩:=hdk
       rfl
      rw [<- yEb] at b1 b2
      obtain ⟨r,hr,hr2⟩:=Kh b1 es.toList tab 0 o5 b2
      obtain ⟨i0,z,hi0,his,hib,hz0,pO,hzs,yLx⟩:=(hT _ _ hte).i
      rw [b3] at yLx
      have hzr:=pO β w (C.N β σ.h)
      rw [hz] at hzr
      have hzn:z=.nilFunc:=by
       obtain ⟨c1,c2,e,r1,r2⟩:=hzr
       simp only [aN] at r2
       subst r2
       simp only [L.Rel,Ty.Rel] at r1
       rw [r1.1,List.append_nil] at e
       cases z <;> simp [Value.cells,rP] at e yLx ⊢
      have hu1:(underlying t).run C.P w=.ok (.map kt et) w:=by simp [underlying,hd]
      have hu2:(underlying kt).run C.P w=.ok dk w:=by simp [underlying,zMu]
      have hget:(getObj b).run C.P w=.ok (.map es n) w:=by simp [getObj,Sem.run,o4]
      have hck:=lN (w:=w) (b:=es.isEmpty) (n:=9999) zMu b1
      have hzv:(zeroValue et).run C.P w=.ok .nilFunc w:=by simp [zeroValue,typeInfo,hi0,hz0,hzn]
      refine After.read hs ⟨.tuple #[zBw key tab,.bool (memT tab key)],?_,[_,_],rfl,?_⟩
      ·rw [Tz]
       unfold zBw
       cases hq:xG tab key with
       | none =>
        rw [hq] at hr2
        subst hr2
        simp only [execOp,ho,e2,hkv,Instr.lookup,Sem.run_bind,hu1,Result.andThen_ok,hget,hck,Instr.findKey,hu2,hr,Sem.run_pure,hzv]
        rfl
       | some f =>
        rw [hq] at hr2
        obtain ⟨j,rfl⟩:=hr2
        simp only [execOp,ho,e2,hkv,Instr.lookup,Sem.run_bind,hu1,Result.andThen_ok,hget,hck,Instr.findKey,hu2,hr,Sem.run_pure]
        rfl
      ·exact ⟨by simp only [iO,L.Rel],by simp only [iO,L.Rel,Ty.Rel],trivial⟩
     ·cases h
    ·cases h
   ·cases h
  ·cases h
 ·cases h
end
end Go.Dec
namespace Go.Dec
open Go.Lib
def kS (σ:St) (te:Ty):List (Nat × Operand)->List te.den->Option (List te.den)
 | [],xs=>some xs
 | (i,x) :: r,xs =>
  match (ovl σ x).leaves with
  | some ls =>
   match cK te ls with
   | some (y,[])=>match Nat.blt i xs.length with
    | true=>kS σ te r (xs.set i y)
    | false=>none
   | _=>none
  | none=>none
def isX (T:Tab) (o:Oper):Bool :=
 match o.op with
 | .unOp .xor _ _=>true
 | .build t _=>match T.get t with
  | some ti=>match ti.k with | .arr .. => true | _=>false
  | none=>false
 | .index t _ _=>match T.get t with
  | some ti=>match ti.k with | .arr .. => true | _=>false
  | none=>false
 | .convert s d _=>match T.get s,T.get d with
  | some ts,some td=>match ts.k,td.k with
   | .slice _,.str=>true
   | .str,.slice _=>true
   | _,_=>false
  | _,_=>false
 | .field .. => true
 | _=>false
def dU (ys:List Int):List UInt8:=ys.map fun n=>UInt8.ofNat n.toNat
def Dr (T:Tab) (σ:St) (o:Oper):Option (Bool × V × List Ob) :=
 match o.op with
 | .unOp .xor _ x=>match ovl σ x with
  | .one (.val (.int k) n)=>some (true,.one (.val (.int k) (Ir k .xor (if k.signed then -1 else k.max) n)),σ.h)
  | _=>none
 | .build t parts=>match T.get t with
  | some ti=>match ti.k with
   | .arr n e=>match T.get e,ti.zls with
    | some te,[.val (.arr m ty) xs]=>if te.size=ty.size∧m=n then
      match kS σ ty parts.toList xs with
      | some ys=>some (true,.agg [.val (.arr m ty) ys],σ.h)
      | none=>none
     else none
    | _,_=>none
   | _=>none
  | none=>none
 | .index t x i=>match T.get t,ovl σ x,jN (ovl σ i) with
  | some ti,.agg [.val (.arr m ty) xs],some (_,j)=>match ti.k with
   | .arr n e=>match T.get e with
    | some te=>if te.size=ty.size∧m=n∧te.k.isAgg=ty.isAgg then
      match ty.isAgg with
      | true=>some (inB j n,.agg (explode ty (bZ ty.dflt xs j)),σ.h)
      | false=>some (inB j n,.one (.val ty (bZ ty.dflt xs j)),σ.h)
     else none
    | none=>none
   | _=>none
  | _,_,_=>none
 | .convert s d x=>match T.get s,T.get d,ovl σ x with
  | some ts,some td,.one l=>match ts.k,td.k with
   | .slice e,.str=>match T.get e with
    | some te=>match te.k with
     | .int .u8=>match rowsOf σ.h (.int .u8) l with
      | some (c,ys)=>some (c,.one (.val .str (dU ys)),σ.h)
      | none=>none
     | _=>none
    | none=>none
   | .str,.slice e=>match T.get e,l with
    | some te,.val .str s=>match te.k with
     | .int .u8=>some (Nat.ble s.length room,.one (.val (.slice (.int .u8)) (bA s)),σ.h)
     | _=>none
    | _,_=>none
   | _,_=>none
  | _,_,_=>none
 | .field s x f=>match T.get s,ovl σ x with
  | some ti,.agg ls=>match ti.k with
   | .struct fs=>match fs[f]? with
    | some (off,ft)=>match T.get ft with
     | some tf=>match Ap ls off tf.size with
      | some c=>match mkV tf.k.isAgg c with
       | some v=>some (true,v,σ.h)
       | none=>none
      | none=>none
     | none=>none
    | none=>none
   | _=>none
  | _,_=>none
 | _=>none
def lC (T:Tab) (σ:St) (o:Oper):Option (Bool × V × List Ob) :=
 match isM o with
 | true=>stepM T σ o
 | false =>
  match isX T o with
  | true=>Dr T σ o
  | false=>fA T σ o
theorem Yu {α:Type} {n:Nat}:∀ (css:List (List α)) (i:Nat) (c:List α),(∀ d ∈ css,d.length=n)->c.length=n->i < css.length->(css.set i c).flatten=css.flatten.take (i * n)++c++css.flatten.drop (i * n+n)
 | [],i,c,_,_,h=>by simp at h
 | d :: css,0,c,hd,hc,_=>by
  have h1:=hd d (.head _)
  simp only [List.set_cons_zero,List.flatten_cons,Nat.zero_mul,List.take_zero,List.nil_append,Nat.zero_add]
  rw [List.drop_left' h1]
 | d :: css,i+1,c,hd,hc,h=>by
  have h1:=hd d (.head _)
  have ih:=Yu css i c (fun e he=>hd e (.tail _ he)) hc (by simpa using h)
  simp only [List.set_cons_succ,List.flatten_cons,ih]
  have e1:(i+1) * n=d.length+i * n:=by rw [h1,Nat.succ_mul]; omega
  rw [e1,List.take_length_add_append,Nat.add_assoc,List.drop_length_add_append]
  simp
section
variable {β:Nat->Pl} {w:World} {T:Tab} {C:Ctx}
theorem Sb {σ:St} {a:Act} {te:Ty} (hs:Sim C β σ a w):∀ {ps:List (Nat × Operand)} {xs ys:List te.den} {css:List (List Value)} {cs:Array Value},kS σ te ps xs=some ys ->
  aW (fun x c=>te.Rel w (C.N β σ.h) x c) xs css->cs.toList=css.flatten ->
  ∃ (Ga:List (List Value)) (cs':Array Value),Instr.fill (fun i=>some (i * te.size,te.size)) cs (ps.map fun p=>(p.1,a.eval p.2))=some cs'∧cs'.toList=Ga.flatten∧aW (fun x c=>te.Rel w (C.N β σ.h) x c) ys Ga∧ys.length=xs.length
 | [],xs,ys,css,cs,h,hr,hc=>by
  simp only [kS,aA] at h
  subst h
  exact ⟨css,cs,rfl,hc,hr,rfl⟩
 | (i,x) :: ps,xs,ys,css,cs,h,hr,hc=>by
  simp only [kS] at h
  split at h
  ·rename_i ls hls
   split at h
   ·rename_i y hy
    split at h
    ·rename_i hi
     have hi:i < xs.length:=bM hi
     have hx:=jD hy (V.xH hls (aS hs x))
     have hl:=fQ hr
     have hcl:css.length=xs.length:=hr.length.symm
     have hlen:(a.eval x).cells.size=te.size:=by simpa using hx.length
     have hfl:cs.size=css.length * te.size:=by
      have:cs.toList.length=css.flatten.length:=by rw [hc]
      rw [flatten_length css hl] at this
      simpa using this
     have hfit:i * te.size+te.size <= cs.size:=by
      rw [hfl,<- Nat.succ_mul]; exact Nat.mul_le_mul_right _ (by omega)
     have hset:=Yu css i (a.eval x).cells.toList hl (by simpa using hlen) (by omega)
     obtain ⟨Ga,cs',h1,h2,h3,h4⟩:=Sb hs (css:=css.set i (a.eval x).cells.toList) (cs:=(cs.toList.take (i * te.size)++(a.eval x).cells.toList++cs.toList.drop (i * te.size+te.size)).toArray) h (hr.set i hx) (by rw [hset,hc])
     refine ⟨Ga,cs',?_,h2,h3,by rw [h4,List.length_set]⟩
     rw [List.map_cons,Iy _ cs i (i * te.size) te.size _ _ rfl hlen hfit]
     exact h1
    ·cases h
   ·cases h
  ·cases h
theorem zGn {N:Nat->Nat->Prop}:∀ {ys:List Int} {css:List (List Value)},aW (fun x c=>(Ty.int .u8).Rel w N x c) ys css->css.flatten=ys.map (Value.int .u8)
 | [],[],_=>rfl
 | y :: ys,c :: css,h=>by
  obtain ⟨h1,h2⟩:=h
  simp only [Ty.Rel] at h1
  subst h1
  simp [zGn h2]
 | [],_ :: _,h=>h.elim
 | _ :: _,[],h=>h.elim
theorem yEc {P:Program} {N:Nat->Nat->Prop} {t:TypeId} {ti:TI} (h:kR P t ti) {off:Nat} {c:List L} {cs:List Value} {v:V} (hl:aN β w N c ((cs.drop off).take ti.size)) (hs:off+ti.size <= cs.length) (hv:mkV ti.k.isAgg c=some v) :
  ∃ x,(part t cs.toArray off).run P w=.ok x w∧v.Rel β w N x:=by
 cases ha:ti.k.isAgg with
 | true =>
  rw [ha] at hv
  simp only [mkV,aA] at hv
  subst hv
  refine ⟨.agg (cs.toArray.extract off (off+ti.size)),?_,⟨(cs.drop off).take ti.size,?_,hl⟩⟩
  ·simp only [part,Sem.run_bind,h.isAgg,Result.andThen_ok,ha,if_true,h.sizeOf,Sem.run_pure]
  ·congr 1
   apply Array.toList_inj.1
   simp only [Array.toList_extract,List.extract_eq_take_drop]
   rw [show off+ti.size - off=ti.size by omega]
 | false =>
  rw [ha] at hv
  match c,hv with
  | [l],hv =>
   simp only [mkV,aA] at hv
   subst hv
   have hone:ti.size=1:=by
    obtain ⟨i,z,_,hsz,_,_,_,hz,hag⟩:=h.i
    rw [ha] at hag
    rw [<- hsz,<- hz]
    cases z <;> first | rfl | simp [rP] at hag
   rw [hone] at hl hs
   obtain ⟨c1,c2,e,h1,h2⟩:=hl
   simp only [aN] at h2
   subst h2
   rw [List.append_nil] at e
   have hlt:off < cs.length:=by omega
   have e2:(cs.drop off).take 1=[cs[off]]:=by rw [List.drop_eq_getElem_cons hlt]; rfl
   rw [e2] at e
   subst e
   refine ⟨cs[off],?_,h1⟩
   simp only [part,Sem.run_bind,h.isAgg,Result.andThen_ok,ha,Bool.false_eq_true,if_false,List.getElem?_toArray,List.getElem?_eq_getElem hlt,Sem.run_pure]
theorem yAq {σ : St} {a : Act} {o : Oper} {v : V} {h' : List Ob} (hT : bK C.P T) (hs : Sim C β σ a w) (h : Dr T σ o = some (true, v, h')) : After C β σ a w o v h' := by
  unfold Dr at h
  split at h
  ·
    rename_i _ x ho
    have hx := aS hs x
    split at h
    · rename_i k n hov
      rw [hov] at hx
      simp only [aA, aB, true_and] at h
      obtain ⟨rfl, rfl⟩ := h
      simp only [V.Rel, L.Rel, Ty.Rel, aL, and_true] at hx
      refine After.read hs ⟨.int k (Ir k .xor (if k.signed then -1 else k.max) n), ?_, by simp only [V.Rel, L.Rel, Ty.Rel]⟩
      simp only [execOp, ho]
      refine eP ?_
      rw [hx]
      simp only [Op.unary, Op.intBits, Ir, Sem.run_pure]
    · cases h
  ·
    rename_i t parts ho
    split at h
    · rename_i ti hti
      split at h
      · rename_i n e hk
        split at h
        · rename_i tie m ty xs hte hz
          split at h
          · rename_i hc
            obtain ⟨hsz, rfl⟩ := hc
            split at h
            · rename_i ys hys
              simp only [aA, aB, true_and] at h
              obtain ⟨rfl, rfl⟩ := h
              have hok := hT _ _ hti
              have hu := hok.arr hk
              obtain ⟨_, z, hi, his, hib, hzz, pO, hzs, yRe⟩ := hok.i
              have hz0 := pO β w (C.N β σ.h)
              rw [hz] at hz0
              obtain ⟨c1, c2, ec, hr, h0⟩ := hz0
              simp only [aN] at h0
              subst h0
              rw [List.append_nil] at ec
              simp only [L.Rel, Ty.Rel] at hr
              obtain ⟨hxl, css, ec1, hall⟩ := hr
              obtain ⟨Ga, cs', h1, h2, h3, h4⟩ := Sb hs (cs := z.cells) hys hall (by rw [ec, ec1])
              refine After.read hs ⟨.agg cs', ?_, ?_⟩
              · have hzv : (zeroValue t).run C.P w = .ok z w := by simp [zeroValue, typeInfo, hi, hzz]
                simp only [execOp, ho]
                refine eP ?_
                simp only [Instr.build, Sem.run_bind, hzv, Result.andThen_ok, run_underlying hu, (hT _ _ hte).sizeOf, hsz, Array.toList_map]
                rw [h1]
                rfl
              · exact ⟨cs'.toList, rfl, aN.yJh (by simp only [L.Rel, Ty.Rel]; exact ⟨by rw [h4, hxl], Ga, h2, h3⟩)⟩
            · cases h
          · cases h
        · cases h
      · cases h
    · cases h
  ·
    rename_i t x i ho
    split at h
    · rename_i ti m ty xs k j hti hx hi
      split at h
      · rename_i n e hk
        split at h
        · rename_i te hte
          split at h
          · rename_i hc
            obtain ⟨hsz, rfl, hagg⟩ := hc
            have hok := hT _ _ hti
            have hu := hok.arr hk
            have hxr := aS hs x
            rw [hx] at hxr
            obtain ⟨cs, ex, c1, c2, ec, hr, h0⟩ := hxr
            simp only [aN] at h0
            subst h0
            rw [List.append_nil] at ec
            subst ec
            simp only [L.Rel, Ty.Rel] at hr
            obtain ⟨hxl, css, ec1, hall⟩ := hr
            have hl := fQ hall
            have iv := eT hi (aS hs i)
            have key : inB j m = true -> ∃ (h2 : j.toNat < xs.length) (h3 : j.toNat < css.length), ty.Rel w (C.N β σ.h) (bZ ty.dflt xs j) css[j.toNat] ∧ (cs.drop (j.toNat * ty.size)).take ty.size = css[j.toNat] ∧ 0 <= j ∧ j < (m : Int) ∧ j.toNat * ty.size + ty.size <= cs.length := by
              intro hb
              obtain ⟨g0, g1, g2⟩ := yQ hb
              have h2 : j.toNat < xs.length := by omega
              have h3 : j.toNat < css.length := by rw [<- hall.length]; exact h2
              refine ⟨h2, h3, ?_, ?_, g0, g1, ?_⟩
              · have := hall.get j.toNat h2 h3
                simpa [bZ, List.getD_eq_getElem?_getD, h2] using this
              · rw [ec1, jC css hl, List.drop_eq_getElem_cons h3, List.flatten_cons, List.take_left' (hl _ (List.getElem_mem h3))]
              · rw [ec1, flatten_length css hl, <- Nat.succ_mul]; exact Nat.mul_le_mul_right _ (by omega)
            obtain ⟨ie, ze, hie, yTw, yTx, yTy, yTn, yTz, yUa⟩ := (hT _ _ hte).i
            have yAr : (isAgg e).run C.P w = .ok te.k.isAgg w := by
              obtain ⟨d, hd, hdk⟩ := (hT _ _ hte).und
              simp only [isAgg, Sem.run_bind, run_underlying hd, Result.andThen_ok, <- hdk]
              cases d <;> rfl
            split at h
            · rename_i hag
              simp only [aA, aB] at h
              obtain ⟨hb, rfl, rfl⟩ := h
              obtain ⟨h2, h3, hrel, hcut, g0, g1, g2⟩ := key hb
              refine After.read hs ⟨.agg (cs.toArray.extract (j.toNat * ty.size) (j.toNat * ty.size + ty.size)), ?_, ?_⟩
              · simp only [execOp, ho]
                refine eP ?_
                rw [iv, ex]
                simp only [Instr.index, asIntOf, Sem.run_bind, Sem.run_pure, Result.andThen_ok, run_underlying hu, g0, g1, and_self, if_true, (hT _ _ hte).sizeOf, part, yAr, hagg, hag, hsz]
              · refine ⟨css[j.toNat], ?_, iZ hrel⟩
                congr 1
                apply Array.toList_inj.1
                simp only [Array.toList_extract, List.extract_eq_take_drop]
                rw [show j.toNat * ty.size + ty.size - j.toNat * ty.size = ty.size by omega, hcut]
            · rename_i hag
              simp only [aA, aB] at h
              obtain ⟨hb, rfl, rfl⟩ := h
              obtain ⟨h2, h3, hrel, hcut, g0, g1, g2⟩ := key hb
              have hone : ty.size = 1 := by cases ty <;> first | rfl | cases hag
              have hcl : css[j.toNat].length = 1 := by rw [hrel.length, hone]
              obtain ⟨u, hu1⟩ : ∃ u, css[j.toNat] = [u] := List.length_eq_one_iff.1 hcl
              rw [hu1, hone, Nat.mul_one] at hcut
              have hget : cs[j.toNat]? = some u := by
                have : (cs.drop j.toNat).take 1 = [u] := hcut
                have h5 : ((cs.drop j.toNat).take 1)[0]? = some u := by rw [this]; rfl
                rw [List.getElem?_take, if_pos (by omega), List.getElem?_drop] at h5
                simpa using h5
              rw [hu1] at hrel
              refine After.read hs ⟨u, ?_, by simp only [V.Rel, L.Rel]; exact hrel⟩
              simp only [execOp, ho]
              refine eP ?_
              rw [iv, ex]
              simp only [Instr.index, asIntOf, Sem.run_bind, Sem.run_pure, Result.andThen_ok, run_underlying hu, g0, g1, and_self, if_true, (hT _ _ hte).sizeOf, part, yAr, hagg, hag, hsz, hone, Nat.mul_one, Bool.false_eq_true, if_false, List.getElem?_toArray, hget]
          · cases h
        · cases h
      · cases h
    · cases h
  ·
    rename_i s d x ho
    split at h
    · rename_i ts td l hts htd hl
      have hx := aS hs x
      rw [hl] at hx
      split at h
      · rename_i e hks hkd
        split at h
        · rename_i te hte
          split at h
          · rename_i hke
            split at h
            · rename_i c ys hys
              simp only [aA, aB] at h
              obtain ⟨rfl, rfl, rfl⟩ := h
              have hy := nD hs.heap hys (show l.Rel β w (C.N β σ.h) [a.eval x] from hx)
              have hus := (hT _ _ hts).slice hks
              have hue := (hT _ _ hte).int hke
              have hud := (hT _ _ htd).str hkd
              refine After.read hs ⟨.string ⟨(dU ys).toArray⟩, ?_, by simp only [V.Rel, L.Rel, Ty.Rel]⟩
              simp only [execOp, ho]
              refine eP ?_
              have fin : ∀ b off cap, a.eval x = .slice (some ⟨b, off, none⟩) ys.length cap -> (∀ j u, (ys.map (Value.int .u8))[j]? = some u -> w.cell? ⟨b, off + j, none⟩ = some u) -> (convert s d (a.eval x)).run C.P w = .ok (.string ⟨(dU ys).toArray⟩) w := by
                intro b off cap hv hcells
                rw [hv, run_convert_bytes_arg (P := C.P) w s e hus hue b off ys.length cap ys rfl (fun i hi => hcells i _ (by simp [List.getD_eq_getElem?_getD, hi])) d hud]
                simp [strOfNums, dU]
              rcases hy with ⟨hv, rfl⟩ | ⟨b, off, cap, css, hv, _, hall, hcs⟩ | ⟨a0, cap, hv, rfl⟩
              · rw [hv, run_convert_bytes_nil (P := C.P) w s e hus hue 0 0 d hud]; rfl
              · exact fin b off cap hv (by rw [<- zGn hall]; exact hcs)
              · obtain ⟨b, off, wk⟩ := a0
                rw [hv, run_convert_bytes_string w s d e _ 0 cap hus hue hud]
                simp [Conv.bytesToString, loadCells, loadCellsFrom, dU]
                rfl
            · cases h
          · cases h
        · cases h
      · rename_i e hks hkd
        split at h
        · rename_i te s0 hte
          split at h
          · rename_i hke
            simp only [aA, aB] at h
            obtain ⟨hroom, rfl, rfl⟩ := h
            have hus := (hT _ _ hts).str hks
            have hue := (hT _ _ hte).int hke
            have hud := (hT _ _ htd).slice hkd
            simp only [V.Rel, L.Rel, Ty.Rel, aL, and_true] at hx
            have hroom := bM hroom
            unfold room at hroom
            let bs : ByteArray := ⟨s0.toArray⟩
            have hbs : bs.size = s0.length := by simp [bs, ByteArray.size]
            have hge := grownCap_ge w bs.size 0 e
            have hcm := grownCap_le_maxLen w bs.size 0 e (by simp only [maxLen]; omega)
            have hkk : Keep (fun _ _ => False) w (bytesWorld w e bs) := Keep.mV (M := fun _ => False) (by rw [bytesWorld_size]; omega) (fun b hb _ => bytesWorld_at_old w e bs b hb) (fun _ _ h => h)
            have hrun : (convert s d (a.eval x)).run C.P w = .ok (.slice (some ⟨w.heap.size, 0, none⟩) bs.size (grownCap w bs.size 0 e)) (bytesWorld w e bs) := by
              rw [hx]
              exact Go.Lib.run_convert_string_bytes w s d e bs hus hud hue
            have hN : ∀ b j, C.N β σ.h b j -> b < w.heap.size := fun b j hb => by
              rcases hb with hb | ⟨id, o, ho, _, hbk⟩
              · exact Nat.lt_of_lt_of_le (hs.heap.n0 b j hb) hs.heap.size
              · exact (hs.heap.fJ id o b ho ⟨j, hbk⟩).2.1
            have hfr : ∀ (id : Nat) (o : Ob) (b : Nat), σ.h[id]? = some o -> o.blks (β id) b -> (bytesWorld w e bs).heap[b]? = w.heap[b]? := fun id o b ho hb => hkk.block b (hs.heap.fJ id o b ho hb).2.1 (fun _ h => h)
            refine ⟨β, bytesWorld w e bs, _, .slice (some ⟨w.heap.size, 0, none⟩) bs.size (grownCap w bs.size 0 e), ?_, .inl rfl, Moves.refl β, hkk.weaken fun _ _ h => h.elim, ?_, ?_⟩
            · simp only [execOp, ho, Sem.run_bind, hrun, Result.andThen_ok, Sem.run_pure]
            · refine ⟨⟨fun id o ho => (hs.heap.obj id o ho).mono (Moves.refl β) (hkk.weaken fun _ _ h => h.elim) (fun _ _ _ h => h) fun b hb => hfr id o b ho hb, hs.heap.dead, hs.heap.kX, fun id o b ho hb => ?_, hs.heap.n0, hs.heap.frame.xE hkk fun _ _ _ h => h.elim, Nat.le_trans hs.heap.size hkk.size, ?_, ?_, ?_, hs.heap.fixed⟩, hs.defers, hs.size, fun i u hu => (hs.reg i u hu).mono (Moves.refl β) (hkk.weaken fun _ _ h => h.elim) fun _ _ _ h => h⟩
              · obtain ⟨k1, k2, k3⟩ := hs.heap.fJ id o b ho hb
                exact ⟨k1, Nat.lt_of_lt_of_le k2 hkk.size, k3⟩
              · exact (show (bytesWorld w e bs).os = w.os from rfl).trans hs.heap.os
              · exact (show (bytesWorld w e bs).tape = w.tape from rfl).trans hs.heap.tape
              · exact (show (bytesWorld w e bs).output = w.output from rfl).trans hs.heap.output
            · simp only [V.Rel, L.Rel, Ty.Rel]
              have hsl : (bA s0).length = bs.size := by simp [bA, hbs]
              refine ⟨_, rfl, .inr (.inl ⟨w.heap.size, 0, grownCap w bs.size 0 e, (bA s0).map fun n => [Value.int .u8 n], by rw [hsl], by rw [bytesWorld_size]; omega, fun j _ _ hn => ?_, by rw [hsl]; exact hge, hcm, ?_, ?_, ?_⟩)⟩
              · have := hN _ _ hn; omega
              · exact zMv (fun n => by simp only) _
              · intro c hc
                obtain ⟨n, _, rfl⟩ := List.mem_map.1 hc
                rfl
              · intro j u hj
                rw [Nat.zero_add]
                have hj2 : j < s0.length := by
                  have : ((bA s0).map fun n => [Value.int .u8 n]).flatten.length = s0.length := by rw [flatten_length (n := 1) _ (fun c hc => by obtain ⟨n, _, rfl⟩ := List.mem_map.1 hc; rfl)]; simp [bA]
                  rw [<- this]
                  exact (bD.1 hj).1
                have e1 : ((bA s0).map fun n => [Value.int .u8 n]).flatten = (bA s0).map (Value.int .u8) := by
                  generalize bA s0 = l
                  induction l with
                  | nil => rfl
                  | cons a l ih => simp [ih]
                rw [e1] at hj
                rw [bytesWorld_cell w e bs j (by rw [hbs]; exact hj2)]
                simp only [bA, List.map_map, List.getElem?_map, List.getElem?_eq_getElem hj2, Option.map_some, aA, Function.comp] at hj
                simp [bs, List.getD_eq_getElem?_getD, hj2, <- hj]
          · cases h
        · cases h
      · cases h
    · cases h
  ·
    rename_i s x f ho
    have hx := aS hs x
    split at h
    · rename_i ti ls hti hl
      rw [hl] at hx
      split at h
      · rename_i fs hk
        split at h
        · rename_i off ft hf
          split at h
          · rename_i tf htf
            split at h
            · rename_i c hc
              split at h
              · rename_i v0 hv
                simp only [aA, aB, true_and] at h
                obtain ⟨rfl, rfl⟩ := h
                obtain ⟨cs, ex, hls⟩ := hx
                obtain ⟨hr, hle⟩ := tK hc hls
                have hok := hT _ _ hti
                have hok2 := hT _ _ htf
                obtain ⟨ff, hu, hfs⟩ := hok.struct hk
                subst hfs
                rw [List.getElem?_map] at hf
                cases hfe : ff.toList[f]? with
                | none => rw [hfe] at hf; cases hf
                | some fe =>
                  rw [hfe] at hf
                  simp only [Option.map_some, aA, aB] at hf
                  obtain ⟨rfl, rfl⟩ := hf
                  have yRg : ff[f]? = some fe := by rw [<- Array.getElem?_toList]; exact hfe
                  obtain ⟨u, h1, h2⟩ := yEc (P := C.P) hok2 (off := fe.offset) hr hle hv
                  refine After.read hs ⟨u, ?_, h2⟩
                  simp only [execOp, ho]
                  refine eP ?_
                  rw [ex]
                  simp only [Instr.field, Sem.run_bind, run_underlying hu, Result.andThen_ok, yRg, asAgg, Sem.run_pure]
                  exact h1
              · cases h
            · cases h
          · cases h
        · cases h
      · cases h
    · cases h
  · cases h
where
 aN.yJh {l:L} {cs:List Value} {N:Nat->Nat->Prop} (h:l.Rel β w N cs):aN β w N [l] cs:=⟨cs,[],by simp,h,rfl⟩
 zMv {γ δ:Type} {R:γ->δ->Prop} {f:γ->δ} (h:∀ x,R x (f x)):∀ l:List γ,aW R l (l.map f)
  | []=>trivial
  | a :: l=>⟨h a,zMv h l⟩
theorem yAs {σ:St} {a:Act} {o:Oper} {v:V} {h':List Ob} (hT:bK C.P T) (hs:Sim C β σ a w) (h:lC T σ o=some (true,v,h')):After C β σ a w o v h':=by
 unfold lC at h
 split at h
 ·exact yAp hT hs h
 ·split at h
  ·exact yAq hT hs h
  ·exact zVy hT hs h
end
end Go.Dec
