/- Part of a proof over this seat: a library of my own, and what it says of this seat. No statement is proved here. -/
import Derived.Test.YtdgneppobefaoaaGreatDoorPartAB
import Derived.LaidEql
import Derived.WalkSpells
namespace Go.Dec
section
variable {β:Nat->Pl} {w:World} {T:Tab} {C:Ctx}
def rowsOf (h:List Ob) (te:Ty) (x:L):Option (Bool × List te.den) :=
 match x with
 | .bV=>some (true,[])
 | .val (.slice t) ys=>if e:t=te then some (true,e ▸ ys) else none
 | .own id ver =>
  match h[id]? with
  | some (.arr _ t v rows _)=>if e:t=te then some (Nat.beq v ver,e ▸ rows) else none
  | _=>none
 | .sl id ver off len =>
  match h[id]? with
  | some (.arr _ t v rows _)=>if e:t=te then some (Nat.beq v ver && decide (off+len <= rows.length),e ▸ ((rows.drop off).take len)) else none
  | _=>none
 | _=>none
def Yx (w:World) (N:Nat->Nat->Prop) (te:Ty) (ys:List te.den) (v:Value):Prop :=
 (v=.slice none 0 0∧ys=[])∨(∃ b off cap css,v=.slice (some ⟨b,off,none⟩) ys.length cap∧ys.length <= cap∧aQ (fun x c=>te.Rel w N x c) ys css∧Cells w b off css.flatten)∨∃ a cap,v=.slice (some a) 0 cap∧ys=[]
theorem eH {N:Nat->Nat->Prop} {te:Ty} {ys:List te.den} {css:List (List Value)} (h:aQ (fun x c=>te.Rel w N x c) ys css):∀ c ∈ css,c.length=te.size:=fun c hc=>by
 obtain ⟨y,_,hy⟩:=h.mem_right c hc
 exact hy.length
theorem qY {h:List Ob} {te:Ty} {x:L} {ys:List te.den} {v:Value} (hh:dB C β h w) (hr:rowsOf h te x=some (true,ys)) (hx:x.Rel β w (C.N β h) [v]):Yx w (C.N β h) te ys v:=by
 unfold rowsOf at hr
 split at hr
 ·simp only [aA,aB,true_and] at hr
  simp only [L.Rel,aK,and_true] at hx
  exact .inl ⟨hx,hr.symm⟩
 ·rename_i t zs
  split at hr
  ·rename_i e
   subst e
   simp only [aA,aB,true_and] at hr
   subst hr
   simp only [L.Rel,Ty.Rel] at hx
   obtain ⟨v',e1,hs⟩:=hx
   simp only [aK,and_true] at e1
   subst e1
   rcases hs with hs | ⟨b,off,cap,css,h1,h2,h3,h4,h5,h6,h7,h8⟩ | ⟨a,cap,h1,h2,_⟩
   ·exact .inl hs
   ·exact .inr (.inl ⟨b,off,cap,css,h1,h4,h6,h8⟩)
   ·exact .inr (.inr ⟨a,cap,h1,h2⟩)
  ·cases hr
 ·rename_i id ver
  split at hr
  ·rename_i e t vv rows wr ho
   split at hr
   ·rename_i e1
    subst e1
    simp only [aA,aB] at hr
    obtain ⟨hv,rfl⟩:=hr
    have hv:=aG hv
    have hob:=hh.obj _ _ ho
    simp only [Ob.Rel] at hob
    obtain ⟨_,_,hpv,hpz,hpos,hpl,hob⟩:=hob
    simp only [L.Rel] at hx
    obtain ⟨_,_,_,c,hc,_,himp⟩:=hx
    have hsl:=himp (by rw [hpv,hv])
    simp only [aK,and_true] at hc
    subst hc
    unfold dU at hsl
    rcases hob with ⟨hnb,hr0,_⟩ | ⟨b,cur,css,hb,hheap,hall,htake,hcap,hrc,_⟩
    ·rw [hnb] at hsl
     exact .inl ⟨hsl.1,hr0⟩
    ·rw [hb] at hsl
     obtain ⟨h1,o,h2,h3⟩:=hsl
     rw [hpl] at h2 h1
     have ho0:o=0∨rows.length=0:=by
      rcases h3 with h3 | h3
      ·left; omega
      ·right; omega
     have hcs:=(Cells.of_heap hheap).take (rows.length * t.size)
     rw [htake] at hcs
     rcases ho0 with rfl | h0
     ·exact .inr (.inl ⟨b,0,_,css,h2,by omega,hall,hcs⟩)
     ·have:rows=[]:=List.eq_nil_of_length_eq_zero h0
      subst this
      have:css=[]:=by cases css with | nil=>rfl | cons _ _=>exact hall.elim
      subst this
      exact .inr (.inl ⟨b,o,_,[],h2,by simp,trivial,Cells.nil⟩)
   ·cases hr
  ·cases hr
 ·rename_i id ver off len
  split at hr
  ·rename_i e t vv rows wr ho
   split at hr
   ·rename_i e1
    subst e1
    simp only [aA,aB,aF] at hr
    obtain ⟨⟨hv,hle⟩,rfl⟩:=hr
    have hv:=aG hv
    have hle:=of_decide_eq_true hle
    have hob:=hh.obj _ _ ho
    simp only [Ob.Rel] at hob
    obtain ⟨_,_,hpv,hpz,hpos,hpl,hob⟩:=hob
    simp only [L.Rel] at hx
    obtain ⟨_,_,_,c,hc,_,himp⟩:=hx
    have hsl:=himp (by rw [hpv,hv])
    simp only [aK,and_true] at hc
    subst hc
    unfold dU at hsl
    rcases hob with ⟨hnb,hr0,_⟩ | ⟨b,cur,css,hb,hheap,hall,htake,hcap,hrc,_⟩
    ·rw [hnb] at hsl
     subst hr0
     exact .inl ⟨hsl.1,by simp⟩
    ·rw [hb] at hsl
     obtain ⟨h1,o,h2,h3⟩:=hsl
     have hlen:((rows.drop off).take len).length=len:=by simp; omega
     have hcs:=(Cells.of_heap hheap).take (rows.length * t.size)
     rw [htake] at hcs
     have hl:=eH hall
     have hcs2:=(hcs.drop (off * t.size)).take (len * t.size)
     rw [iF css hl off,kN _ (fun c hc=>hl c (List.mem_of_mem_drop hc)) len,Nat.zero_add] at hcs2
     rcases h3 with h3 | h3
     ·refine .inr (.inl ⟨b,o,_,(css.drop off).take len,by rw [hlen]; exact h2,by omega,(hall.drop off).take len,?_⟩)
      rw [h3,hpz]
      exact hcs2
     ·have hl0:len=0:=by omega
      subst hl0
      exact .inr (.inl ⟨b,o,_,[],by simpa using h2,by simp,by simp [aQ],Cells.nil⟩)
   ·cases hr
  ·cases hr
 ·cases hr
def room:Nat:=140737488355328
theorem zSr {σ:St} {a:Act} {e:TypeId} {t:Ty} {rows:List t.den} {css:List (List Value)} {cs:Array Value} {cap:Nat} (hs:Sim C β σ a w) (hpos:0 < t.size) (hr:aQ (fun x c=>t.Rel w (C.N β σ.h) x c) rows css)
  (hcs:cs.toList.take (rows.length * t.size)=css.flatten) (hsz:cs.size=cap * t.size) (hle:rows.length <= cap) (hm:cap <= maxLen) :
  ∃ β',Moves β β'∧Sim C β' { σ with h:=σ.h++[.arr e t 0 rows true] } a (w.drew.alloc (.cells cs e)) ∧
   (L.own σ.h.length 0).Rel β' (w.drew.alloc (.cells cs e)) (C.N β' (σ.h++[.arr e t 0 rows true])) [.slice (some ⟨w.heap.size,0,none⟩) rows.length cap]:=by
 let p:Pl:=⟨true,false,0,some w.heap.size,t.size,cap,rows.length,[]⟩
 have hk:Keep (fun _ _=>False) w (w.drew.alloc (.cells cs e)):=(pO w).trans (bR w.drew _)
 refine ⟨upd β σ.h.length p,kE hs.heap p,hs.push (p:=p) (.inr ⟨rfl,by simp⟩) hk ⟨rfl,rfl,rfl⟩ ?_,?_⟩
 ·simp only [Ob.Rel]
  refine ⟨rfl,rfl,rfl,rfl,hpos,rfl,.inr ⟨w.heap.size,cs,css,rfl,?_,?_,hcs,hsz,hle,hm⟩⟩
  ·exact heap_alloc_new w.drew _
  ·exact hr.mono fun _ _ hx=>hx.mono (hk.weaken fun _ _ h=>h.elim) fun b j hlt hn=>tL (Ed rfl (.inr rfl)) hlt hn
 ·simp only [L.Rel,upd_same]
  refine ⟨rfl,rfl,aI _,_,rfl,rfl,fun _=>?_⟩
  unfold dU
  simp only [p]
  exact ⟨by omega,0,rfl,.inl (by simp)⟩
theorem wJ {σ:St} {a:Act} {e:TypeId} {t:Ty} (hs:Sim C β σ a w) (hpos:0 < t.size) :
  ∃ β',Moves β β'∧Sim C β' { σ with h:=σ.h++[.arr e t 0 [] true] } a w∧(L.own σ.h.length 0).Rel β' w (C.N β' (σ.h++[.arr e t 0 [] true])) [.slice none 0 0]:=by
 let p:Pl:=⟨true,false,0,none,t.size,0,0,[]⟩
 refine ⟨upd β σ.h.length p,kE hs.heap p,hs.push (p:=p) (.inl rfl) (Keep.refl _ w) ⟨rfl,rfl,rfl⟩ ?_,?_⟩
 ·simp only [Ob.Rel]
  exact ⟨rfl,rfl,rfl,rfl,hpos,rfl,.inl ⟨rfl,trivial,rfl⟩⟩
 ·simp only [L.Rel,upd_same]
  refine ⟨rfl,rfl,aI _,_,rfl,rfl,fun _=>?_⟩
  unfold dU
  simp only [p]
  exact ⟨trivial,trivial,trivial⟩
theorem kF {b off:Nat} {cs:List Value} (h:Cells w b off cs):∀ j u,cs[j]?=some u->w.cell? ((⟨b,off,none⟩:Addr).add j)=some u:=fun j u hu=>by
 rw [addr_add]; exact h j u hu
theorem Yh {σ:St} {a:Act} {st e:TypeId} {ts ti:TI} {te:Ty} {ys:List te.den} {y:Value} (ty:TypeId) (hT:aU C.P T) (hst:T.get st=some ts) (hk:ts.k=.slice e) (hti:T.get e=some ti) (hsz:ti.size=te.size) (hpos:0 < te.size)
  (hby:0 < ti.bytes) (hroom:ys.length * ti.bytes <= room) (hs:Sim C β σ a w) (hy:Yx w (C.N β σ.h) te ys y) :
  ∃ v' w' β',(Builtin.append_ #[st,st] ty #[.slice none 0 0,y]).run C.P w=.ok v' w'∧Moves β β'∧Sim C β' { σ with h:=σ.h++[.arr e te 0 ys true] } a w'∧(L.own σ.h.length 0).Rel β' w' (C.N β' (σ.h++[.arr e te 0 ys true])) [v']∧Keep (C.N β σ.h) w w':=by
 have hu:=(hT _ _ hst).slice hk
 obtain ⟨i,z,hi,his,hib,hz,kP,hzs,_⟩:=(hT _ _ hti).i
 have hlen:ys.length <= ys.length * ti.bytes:=Nat.le_mul_of_pos_right _ hby
 unfold room at hroom
 have hnil:ys=[]->y=.slice none 0 0∨(∃ a cap,y=.slice (some a) 0 cap)->(Builtin.append_ #[st,st] ty #[.slice none 0 0,y]).run C.P w=.ok (.slice none 0 0) w:=by
  rintro _ (rfl | ⟨a,cap,rfl⟩)
  ·simp [Builtin.append_,run_underlying hu,Go.sizeOf,typeInfo,hi,Builtin.lenOf,Builtin.firstCells]
  ·simp [Builtin.append_,run_underlying hu,Go.sizeOf,typeInfo,hi,Builtin.lenOf,Builtin.firstCells,loadCells,loadCellsFrom]
 by_cases h0:ys.length=0
 ·have hys:ys=[]:=List.eq_nil_of_length_eq_zero h0
  subst hys
  obtain ⟨β',h1,h2,h3⟩:=wJ (e:=e) hs hpos
  refine ⟨_,w,β',hnil rfl ?_,h1,h2,h3,Keep.refl _ w⟩
  rcases hy with ⟨hy,_⟩ | ⟨b,off,cap,css,hy,_⟩ | ⟨a,cap,hy,_⟩
  ·exact .inl hy
  ·exact .inr ⟨⟨b,off,none⟩,cap,hy⟩
  ·exact .inr ⟨a,cap,hy⟩
 ·rcases hy with ⟨_,hy⟩ | ⟨b,off,cap,css,rfl,hle,hall,hcs⟩ | ⟨_,_,_,hy⟩
  rotate_left 2
  ·subst hy; simp at h0
  ·subst hy; simp at h0
  ·have hl:=eH hall
   have hfl:css.flatten.length=ys.length * i.size:=by rw [flatten_length css hl,hall.length,his,hsz]
   have hrun:=run_append_nil (P:=C.P) w st ty e i z hu hi hz ⟨b,off,none⟩ ys.length cap css.flatten hfl (kF hcs) (by omega) (by omega) (by rw [hib]; omega)
   have hge:=grownCap_ge w ys.length 0 e
   have hcm:=grownCap_le_maxLen w ys.length 0 e (by simp only [maxLen]; omega)
   obtain ⟨β',h1,h2,h3⟩:=zSr (e:=e) (cs:=css.flatten.toArray++Builtin.zeroCells z.cells (grownCap w ys.length 0 e - ys.length)) (cap:=grownCap w ys.length 0 e) hs hpos hall
    (by simp only [Array.toList_append]; rw [List.take_left' (by rw [hfl,his,hsz])])
    (by simp only [Array.size_append,List.size_toArray,size_zeroCells,hzs,hfl,his,hsz,<- Nat.add_mul]; congr 1; omega) hge hcm
   exact ⟨_,_,β',hrun,h1,h2,h3,((pO w).trans (bR w.drew _)).weaken fun _ _ h=>h.elim⟩
theorem Ht {σ : St} {a : Act} {st e : TypeId} {ts ti : TI} {te : Ty} {rows ys : List te.den} {x y : Value} {id ver n : Nat} (ty : TypeId) (hT : aU C.P T) (hst : T.get st = some ts) (hk : ts.k = .slice e) (hti : T.get e = some ti) (hsz : ti.size = te.size)
    (hby : 0 < ti.bytes) (hroom : (n + ys.length) * ti.bytes <= room) (hs : Sim C β σ a w) (ho : σ.h[id]? = some (.arr e te ver rows true)) (hn : n <= rows.length) (hx : dU (β id) 0 n x) (hy : Yx w (C.N β σ.h) te ys y) :
    ∃ v' w' β', (Builtin.append_ #[st, st] ty #[x, y]).run C.P w = .ok v' w' ∧ Moves β β' ∧ Sim C β' { σ with h := σ.h.set id (.arr e te (ver + 1) (rows.take n ++ ys) true) } a w' ∧
      (L.own id (ver + 1)).Rel β' w' (C.N β' (σ.h.set id (.arr e te (ver + 1) (rows.take n ++ ys) true))) [v'] ∧ Keep (C.N β σ.h) w w' := by
  have hu := (hT _ _ hst).slice hk
  obtain ⟨i, z, hi, his, hib, hz, kP, hzs, _⟩ := (hT _ _ hti).i
  have hlen : n + ys.length <= (n + ys.length) * ti.bytes := Nat.le_mul_of_pos_right _ hby
  unfold room at hroom
  have hob := hs.heap.obj _ _ ho
  simp only [Ob.Rel] at hob
  obtain ⟨hlive, rQ, hpv, hpz, hpos, hpl, hob⟩ := hob
  have hrl : (rows.take n ++ ys).length = n + ys.length := by simp; omega
  have fin : ∀ (w' : World) (bk cap : Nat) (cur : Array Value) (css : List (List Value)), (bk = w.heap.size ∧ w.heap.size < w'.heap.size ∨ (β id).blk = some bk) -> Keep (fun k _ => (β id).blk = some k ∧ True) w w' -> Same w w' ->
      w'.heap[bk]? = some (.cells cur e (0, 0)) -> aQ (fun x c => te.Rel w (C.N β σ.h) x c) (rows.take n ++ ys) css -> cur.toList.take ((n + ys.length) * te.size) = css.flatten -> cur.size = cap * te.size -> n + ys.length <= cap -> cap <= maxLen ->
      ∃ β', Moves β β' ∧ Sim C β' { σ with h := σ.h.set id (.arr e te (ver + 1) (rows.take n ++ ys) true) } a w' ∧
        (L.own id (ver + 1)).Rel β' w' (C.N β' (σ.h.set id (.arr e te (ver + 1) (rows.take n ++ ys) true))) [.slice (some ⟨bk, 0, none⟩) (n + ys.length) cap] := by
    intro w' bk cap cur css hbk hkeep hsame hheap hall htake hcsz hle hm
    let p : Pl := ⟨true, false, ver + 1, some bk, te.size, cap, n + ys.length, []⟩
    have hmv : Moves β (upd β id p) := fun j hj => by
      by_cases hji : j = id
      · subst hji
        rw [upd_same]
        exact .inr ⟨rQ, rfl, rfl, by rw [hpv]; exact Nat.lt_succ_self _⟩
      · exact .inl (aJ _ _ hji)
    have hpb : p.blk = (β id).blk ∨ p.blk = none ∨ (p.blk = some w.heap.size ∧ w.heap.size < w'.heap.size) := by
      rcases hbk with ⟨e1, h2⟩ | e1
      · right; right; exact ⟨by simp only [p, e1], h2⟩
      · left; simp only [p, e1]
    have hkk : Keep (fun k _ => (β id).blk = some k ∧ Ob.wr (.arr e te ver rows true) = true) w w' := hkeep.weaken fun k _ hk => ⟨hk.1, rfl⟩
    refine ⟨upd β id p, hmv, hs.set (p := p) ho (fun _ => rfl) hpb hkk hsame hmv ?_, ?_⟩
    · simp only [Ob.Rel]
      refine ⟨rfl, rfl, rfl, rfl, hpos, hrl.symm, .inr ⟨bk, cur, css, rfl, hheap, ?_, by rw [hrl]; exact htake, hcsz, by rw [hrl]; exact hle, hm⟩⟩
      exact hall.mono fun _ _ h => h.mono (hkk.weaken fun k _ hk => .inr ⟨id, _, ho, rfl, Ob.lI hk.1⟩) fun k j hlt hn => nL (w := w) ho (at_set (fun _ => rfl) (hpb.imp (fun h => h) (·.imp (fun h => h) (·.1))) rfl) hlt hn
    · simp only [L.Rel, upd_same]
      refine ⟨rfl, rfl, aI _, _, rfl, rfl, fun _ => ?_⟩
      unfold dU
      simp only [p]
      exact ⟨by omega, 0, rfl, .inl (by simp)⟩
  have toK : ∀ {w' : World}, Keep (fun k _ => (β id).blk = some k ∧ True) w w' -> Keep (C.N β σ.h) w w' := fun h => h.weaken fun k _ hk => .inr ⟨id, _, ho, rfl, Ob.lI hk.1⟩
  rcases hob with ⟨hnb, hr0, hcap0⟩ | ⟨b, cur, css, hb, hheap, hall, htake, hcap, hrc, hcm⟩
  ·
    subst hr0
    have hn0 : n = 0 := by simpa using hn
    subst hn0
    unfold dU at hx
    rw [hnb] at hx
    obtain ⟨rfl, _, _⟩ := hx
    by_cases h0 : ys.length = 0
    · have hys : ys = [] := List.eq_nil_of_length_eq_zero h0
      subst hys
      have hrun : (Builtin.append_ #[st, st] ty #[.slice none 0 0, y]).run C.P w = .ok (.slice none 0 0) w := by
        rcases hy with ⟨rfl, _⟩ | ⟨b, off, cap, css, rfl, _⟩ | ⟨_, _, rfl, _⟩
        · simp [Builtin.append_, run_underlying hu, Go.sizeOf, typeInfo, hi, Builtin.lenOf, Builtin.firstCells]
        · simp [Builtin.append_, run_underlying hu, Go.sizeOf, typeInfo, hi, Builtin.lenOf, Builtin.firstCells, loadCells, loadCellsFrom]
        · simp [Builtin.append_, run_underlying hu, Go.sizeOf, typeInfo, hi, Builtin.lenOf, Builtin.firstCells, loadCells, loadCellsFrom]
      let p : Pl := ⟨true, false, ver + 1, none, te.size, 0, 0, []⟩
      have hmv : Moves β (upd β id p) := fun j hj => by
        by_cases hji : j = id
        · subst hji
          rw [upd_same]
          exact .inr ⟨rQ, rfl, rfl, by rw [hpv]; exact Nat.lt_succ_self _⟩
        · exact .inl (aJ _ _ hji)
      refine ⟨_, w, upd β id p, hrun, hmv, hs.set (p := p) ho (fun _ => rfl) (.inr (.inl rfl)) (Keep.refl _ w) ⟨rfl, rfl, rfl⟩ hmv ?_, ?_, Keep.refl _ w⟩
      · simp only [Ob.Rel]
        exact ⟨rfl, rfl, rfl, rfl, hpos, by simp [p], .inl ⟨rfl, by simp, rfl⟩⟩
      · simp only [L.Rel, upd_same]
        refine ⟨rfl, rfl, aI _, _, rfl, rfl, fun _ => ?_⟩
        unfold dU
        simp only [p]
        exact ⟨trivial, trivial, trivial⟩
    · rcases hy with ⟨_, hy⟩ | ⟨b, off, cap, css, rfl, hle, hall, hcs⟩ | ⟨_, _, _, hy⟩
      rotate_left 2
      · subst hy; simp at h0
      · subst hy; simp at h0
      · have hl := eH hall
        have hfl : css.flatten.length = ys.length * i.size := by rw [flatten_length css hl, hall.length, his, hsz]
        have hrun := run_append_nil (P := C.P) w st ty e i z hu hi hz ⟨b, off, none⟩ ys.length cap css.flatten hfl (kF hcs) (by omega) (by omega) (by rw [hib]; rw [Nat.zero_add] at hroom; omega)
        have hge := grownCap_ge w ys.length 0 e
        have hcm := grownCap_le_maxLen w ys.length 0 e (by simp only [maxLen]; omega)
        have hk0 : Keep (fun _ _ => False) w (w.drew.alloc (.cells (css.flatten.toArray ++ Builtin.zeroCells z.cells (grownCap w ys.length 0 e - ys.length)) e)) := (pO w).trans (bR w.drew _)
        have hk1 := hk0.weaken (N' := fun k _ => (β id).blk = some k ∧ True) fun _ _ h => h.elim
        obtain ⟨β', h1, h2, h3⟩ := fin _ w.heap.size (grownCap w ys.length 0 e) _ css (.inl ⟨rfl, by simp⟩) hk1 ⟨rfl, rfl, rfl⟩ (heap_alloc_new w.drew _) (by simpa using hall)
          (by simp only [Array.toList_append, Nat.zero_add]; rw [List.take_left' (by rw [hfl, his, hsz])])
          (by simp only [Array.size_append, List.size_toArray, size_zeroCells, hzs, hfl, his, hsz, <- Nat.add_mul]; congr 1; omega) (by omega) hcm
        rw [Nat.zero_add] at h3
        exact ⟨_, _, β', hrun, h1, h2, h3, toK hk1⟩
  · unfold dU at hx
    rw [hb] at hx
    obtain ⟨h1, o, rfl, h3⟩ := hx
    have ho0 : o = 0 := by
      rcases h3 with h3 | h3
      · simpa using h3
      · omega
    subst ho0
    rw [Nat.sub_zero]
    have hl := eH hall
    have hlx := hall.take n
    obtain ⟨fH, b2, off2, cap2, hrow, mM, zGy⟩ : ∃ fH b2 off2 cap2, (ys.length = 0 ∨ y = .slice (some ⟨b2, off2, none⟩) ys.length cap2) ∧ aQ (fun x c => te.Rel w (C.N β σ.h) x c) ys fH ∧ Cells w b2 off2 fH.flatten := by
      rcases hy with ⟨_, hy⟩ | ⟨b2, off2, cap2, fH, hy, _, hy2, hy3⟩ | ⟨_, _, _, hy⟩
      · subst hy; exact ⟨[], 0, 0, 0, .inl rfl, trivial, Cells.nil⟩
      · exact ⟨fH, b2, off2, cap2, .inr hy, hy2, hy3⟩
      · subst hy; exact ⟨[], 0, 0, 0, .inl rfl, trivial, Cells.nil⟩
    have hly := eH mM
    have hfy : fH.flatten.length = ys.length * i.size := by rw [flatten_length fH hly, mM.length, his, hsz]
    have zUe : cur.toList.take (n * te.size) = (css.take n).flatten := by
      rw [<- kN css hl n, <- htake, List.take_take, Nat.min_eq_left (Nat.mul_le_mul_right _ hn)]
    have hln : (css.take n).flatten.length = n * te.size := by
      rw [flatten_length _ (fun c hc => hl c (List.mem_of_mem_take hc)), List.length_take, <- hall.length, Nat.min_eq_left hn]
    have hone : ∀ u ∈ fH.flatten, u.oneCell' = true := fun u hu => by
      obtain ⟨c, hc, huc⟩ := List.mem_flatten.1 hu
      obtain ⟨q, _, hq⟩ := mM.mem_right c hc
      exact hq.one u huc
    by_cases hr : n + ys.length <= (β id).cap
    ·
      have hmul : (n + ys.length) * te.size <= (β id).cap * te.size := Nat.mul_le_mul_right _ hr
      have hadd : (n + ys.length) * te.size = n * te.size + ys.length * te.size := Nat.add_mul _ _ _
      have hrun : (Builtin.append_ #[st, st] ty #[.slice (some ⟨b, 0, none⟩) n (β id).cap, y]).run C.P w =
          .ok (.slice (some ⟨b, 0, none⟩) (n + ys.length) (β id).cap) (w.setRow b (cur.toList.take (n * i.size) ++ fH.flatten ++ cur.toList.drop (n * i.size + fH.flatten.length)).toArray) := by
        rcases hy with ⟨rfl, hy⟩ | ⟨b3, zYd, zGz, zZi, rfl, _, hy2, hy3⟩ | ⟨a3, zGz, rfl, hy⟩
        rotate_left 2
        · subst hy
          have : fH = [] := by cases fH with | nil => rfl | cons _ _ => exact mM.elim
          subst this
          have zAa : n + 0 <= (β id).cap := hr
          exact run_append_room (P := C.P) w st ty e i hu hi b n (β id).cap cur hheap a3 0 zGz [] (by simp) (by simp) (by simp) zAa (by simp; rw [his, hsz]; simp at hmul; omega)
        · subst hy
          have : fH = [] := by cases fH with | nil => rfl | cons _ _ => exact mM.elim
          subst this
          simp only [List.flatten_nil, List.append_nil, List.length_nil, Nat.add_zero, List.take_append_drop, Array.toArray_toList, setRow_self w b cur e (0, 0) hheap]
          simp [Builtin.append_, run_underlying hu, Go.sizeOf, typeInfo, hi, Builtin.lenOf, Builtin.firstCells, storeCells]
          omega
        · rcases hrow with h0 | hrow
          · have : ys = [] := List.eq_nil_of_length_eq_zero h0
            subst this
            have : fH = [] := by cases fH with | nil => rfl | cons _ _ => exact mM.elim
            subst this
            have zAa : n + 0 <= (β id).cap := hr
            exact run_append_room (P := C.P) w st ty e i hu hi b n (β id).cap cur hheap ⟨b3, zYd, none⟩ 0 zGz [] (by simp) (by simp) (by simp) zAa (by simp; rw [his, hsz]; simp at hmul; omega)
          · simp only [Value.slice.injEq, aA, Addr.mk.injEq, and_true, true_and] at hrow
            obtain ⟨⟨rfl, rfl⟩, rfl⟩ := hrow
            exact run_append_room (P := C.P) w st ty e i hu hi b n (β id).cap cur hheap _ ys.length zGz fH.flatten hfy (kF zGy) hone hr (by rw [hfy, his, hsz]; omega)
      have hk1 : Keep (fun k _ => (β id).blk = some k ∧ True) w (w.setRow b (cur.toList.take (n * i.size) ++ fH.flatten ++ cur.toList.drop (n * i.size + fH.flatten.length)).toArray) := lY.weaken fun k _ hk => by subst hk; exact ⟨hb, trivial⟩
      obtain ⟨β', g1, g2, g3⟩ := fin _ b (β id).cap _ (css.take n ++ fH) (.inr hb) hk1 vP (setRow_heap w b _ _ e _ hheap) (hlx.append mM)
        (by
          rw [his, hsz, zUe, List.flatten_append]
          exact List.take_left' (by rw [List.length_append, hln, hfy, his, hsz, hadd]))
        (by
          simp only [List.size_toArray, List.length_append, List.length_take, List.length_drop, Array.length_toList, hfy, his, hsz]
          omega) hr hcm
      exact ⟨_, _, β', hrun, g1, g2, g3, toK hk1⟩
    ·
      have zXc : 0 < ys.length := by omega
      rcases hrow with h0 | rfl
      · omega
      · have holds : ∀ j u, (css.take n).flatten[j]? = some u -> w.cell? ((⟨b, 0, none⟩ : Addr).add j) = some u := kF (by rw [<- zUe]; exact (Cells.of_heap hheap).take _)
        have hrun := run_append_grow (P := C.P) w st ty e i z hu hi hz ⟨b, 0, none⟩ n (β id).cap (css.take n).flatten (by rw [hln, his, hsz]) holds ⟨b2, off2, none⟩ ys.length cap2 fH.flatten hfy (kF zGy) (by omega) (by omega)
          (growslice_fits (by omega) (by rw [hib]; exact hroom))
        have hge := grownCap_ge w (n + ys.length) (β id).cap e
        have hcm' := grownCap_le_maxLen w (n + ys.length) (β id).cap e (by simp only [maxLen]; omega)
        have hk0 : Keep (fun _ _ => False) w (w.drew.alloc (.cells ((css.take n).flatten.toArray ++ fH.flatten.toArray ++ Builtin.zeroCells z.cells (grownCap w (n + ys.length) (β id).cap e - (n + ys.length))) e)) := (pO w).trans (bR w.drew _)
        have hk1 := hk0.weaken (N' := fun k _ => (β id).blk = some k ∧ True) fun _ _ h => h.elim
        obtain ⟨β', g1, g2, g3⟩ := fin _ w.heap.size (grownCap w (n + ys.length) (β id).cap e) _ (css.take n ++ fH) (.inl ⟨rfl, by simp⟩) hk1 ⟨rfl, rfl, rfl⟩ (heap_alloc_new w.drew _) (hlx.append mM)
          (by
            simp only [Array.toList_append, List.flatten_append]
            exact List.take_left' (by rw [List.length_append, hln, hfy, his, hsz, <- Nat.add_mul]))
          (by
            simp only [Array.size_append, List.size_toArray, size_zeroCells, hzs, hfy, hln, his, hsz, <- Nat.add_mul]
            congr 1; omega) hge hcm'
        exact ⟨_, _, β', hrun, g1, g2, g3, toK hk1⟩
theorem Sim.grow {σ:St} {a:Act} {w':World} (hs:Sim C β σ a w) (hk0:Keep (fun _ _=>False) w w') (hsm:Same w w'):Sim C β σ a w':=by
 have hold:∀ b:Nat,b < w.heap.size->w'.heap[b]?=w.heap[b]?:=fun b hb=>hk0.2 b hb fun _ h=>h
 have hk:Keep (C.N β σ.h) w w':=hk0.weaken fun _ _ h=>h.elim
 refine ⟨⟨fun id o ho=>?_,hs.heap.dead,hs.heap.jT,fun id o b ho hb=>?_,hs.heap.n0,hs.heap.frame.mQ hk0 fun _ _ _ h=>h.elim,Nat.le_trans hs.heap.size hk0.1,hsm.os.trans hs.heap.os,hsm.tape.trans hs.heap.tape,hsm.output.trans hs.heap.output,hs.heap.fixed⟩,hs.defers,hs.size,fun i v hv=>(hs.reg i v hv).mono (Moves.refl β) hk fun _ _ _ h=>h⟩
 ·exact (hs.heap.obj id o ho).mono (Moves.refl β) hk (fun _ _ _ h=>h) fun b hb=>hold b (hs.heap.dH id o b ho hb).2.1
 ·obtain ⟨h1,h2,h3⟩:=hs.heap.dH id o b ho hb
  exact ⟨h1,Nat.lt_of_lt_of_le h2 hk0.1,h3⟩
theorem zLg {h:List Ob} (hs:dB C β h w) (j:Nat):¬ C.N β h w.heap.size j:=by
 rintro (hn | ⟨id,o,ho,_,hat⟩)
 ·have:=hs.n0 _ _ hn; have:=hs.size; omega
 ·have:=(hs.dH id o _ ho ⟨j,hat⟩).2.1; omega
theorem Cw {σ:St} {a:Act} {st e:TypeId} {ts ti:TI} {te:Ty} {xs ys:List te.den} {x y:Value} (ty:TypeId) (hT:aU C.P T) (hst:T.get st=some ts) (hk:ts.k=.slice e) (hti:T.get e=some ti) (hsz:ti.size=te.size)
  (hby:0 < ti.bytes) (hroom:(xs.length+ys.length) * ti.bytes <= room) (hs:Sim C β σ a w) (hx:(Ty.clip te).Rel w (C.N β σ.h) xs [x]) (hy:Yx w (C.N β σ.h) te ys y) :
  ∃ v' w',(Builtin.append_ #[st,st] ty #[x,y]).run C.P w=.ok v' w'∧Keep (C.N β σ.h) w w'∧Sim C β σ a w'∧(Ty.slice te).Rel w' (C.N β σ.h) (xs++ys) [v']:=by
 have hu:=(hT _ _ hst).slice hk
 obtain ⟨i,z,hi,his,hib,hz,kP,hzs,_⟩:=(hT _ _ hti).i
 have hlen:xs.length+ys.length <= (xs.length+ys.length) * ti.bytes:=Nat.le_mul_of_pos_right _ hby
 unfold room at hroom
 obtain ⟨x',e1,hsl,p,n,ht⟩:=hx
 simp only [aK,and_true] at e1
 subst e1
 have fin:∀ (cur:Array Value) (cap:Nat) (css:List (List Value)),aQ (fun x c=>te.Rel w (C.N β σ.h) x c) (xs++ys) css->(∃ r,cur.toList=css.flatten++r)->xs.length+ys.length <= cap->cap <= maxLen ->
   Keep (C.N β σ.h) w (w.drew.alloc (.cells cur e))∧Sim C β σ a (w.drew.alloc (.cells cur e))∧(Ty.slice te).Rel (w.drew.alloc (.cells cur e)) (C.N β σ.h) (xs++ys) [.slice (some ⟨w.heap.size,0,none⟩) (xs.length+ys.length) cap]:=by
  intro cur cap css hall hcur hle hm
  have hk0:Keep (fun _ _=>False) w (w.drew.alloc (.cells cur e)):=(pO w).trans (bR w.drew _)
  have hkN:Keep (C.N β σ.h) w (w.drew.alloc (.cells cur e)):=hk0.weaken fun _ _ h=>h.elim
  refine ⟨hkN,hs.grow hk0 ⟨rfl,rfl,rfl⟩,_,rfl,.inr (.inl ⟨w.heap.size,0,cap,css,by rw [List.length_append],?_,fun j _ _=>zLg hs.heap j,by rw [List.length_append]; exact hle,hm,hall.mono fun _ _ h=>h.mono hkN fun _ _ _ h=>h,eH hall,?_⟩)⟩
  ·have:=heap_alloc_new w.drew (.cells cur e)
   exact (Array.getElem?_eq_some_iff.1 this).1
  ·obtain ⟨r,hcur⟩:=hcur
   have h1:=Cells.of_heap (heap_alloc_new w.drew (.cells cur e))
   rw [hcur] at h1
   exact h1.left
 have hnil:xs=[]->x=.slice none 0 0->∃ v' w',(Builtin.append_ #[st,st] ty #[x,y]).run C.P w=.ok v' w'∧Keep (C.N β σ.h) w w'∧Sim C β σ a w'∧(Ty.slice te).Rel w' (C.N β σ.h) (xs++ys) [v']:=by
  rintro rfl rfl
  have hemp:ys=[]->(Builtin.append_ #[st,st] ty #[.slice none 0 0,y]).run C.P w=.ok (.slice none 0 0) w:=by
   intro h0
   subst h0
   rcases hy with ⟨rfl,_⟩ | ⟨b,off,cap,css,rfl,_⟩ | ⟨_,_,rfl,_⟩
   ·simp [Builtin.append_,run_underlying hu,Go.sizeOf,typeInfo,hi,Builtin.lenOf,Builtin.firstCells]
   ·simp [Builtin.append_,run_underlying hu,Go.sizeOf,typeInfo,hi,Builtin.lenOf,Builtin.firstCells,loadCells,loadCellsFrom]
   ·simp [Builtin.append_,run_underlying hu,Go.sizeOf,typeInfo,hi,Builtin.lenOf,Builtin.firstCells,loadCells,loadCellsFrom]
  by_cases h0:ys.length=0
  ·have hys:ys=[]:=List.eq_nil_of_length_eq_zero h0
   have:=hemp hys
   subst hys
   exact ⟨_,w,this,Keep.refl _ w,hs,_,rfl,.inl ⟨rfl,rfl⟩⟩
  ·rcases hy with ⟨_,hy⟩ | ⟨b,off,cap,css,rfl,hle,hall,hcs⟩ | ⟨_,_,_,hy⟩
   rotate_left 2
   ·subst hy; simp at h0
   ·subst hy; simp at h0
   ·have hl:=eH hall
    have hfl:css.flatten.length=ys.length * i.size:=by rw [flatten_length css hl,hall.length,his,hsz]
    simp only [List.length_nil,Nat.zero_add] at hroom hlen
    have hrun:=run_append_nil (P:=C.P) w st ty e i z hu hi hz ⟨b,off,none⟩ ys.length cap css.flatten hfl (kF hcs) (by omega) (by omega) (by rw [hib]; omega)
    have hge:=grownCap_ge w ys.length 0 e
    have hcm:=grownCap_le_maxLen w ys.length 0 e (by simp only [maxLen]; omega)
    obtain ⟨g1,g2,g3⟩:=fin (css.flatten.toArray++Builtin.zeroCells z.cells (grownCap w ys.length 0 e - ys.length)) (grownCap w ys.length 0 e) css hall ⟨_,by rw [Array.toList_append]⟩ (by simpa using hge) hcm
    simp only [List.length_nil,Nat.zero_add] at g3
    exact ⟨_,_,hrun,g1,g2,g3⟩
 have hsome:∀ (ad:Addr) (csx:List (List Value)),x=.slice (some ad) xs.length xs.length->aQ (fun x c=>te.Rel w (C.N β σ.h) x c) xs csx->(∀ j u,csx.flatten[j]?=some u->w.cell? (ad.add j)=some u)->(Ty.slice te).Rel w (C.N β σ.h) xs [x] ->
   ∃ v' w',(Builtin.append_ #[st,st] ty #[x,y]).run C.P w=.ok v' w'∧Keep (C.N β σ.h) w w'∧Sim C β σ a w'∧(Ty.slice te).Rel w' (C.N β σ.h) (xs++ys) [v']:=by
  rintro ad csx rfl zHa hcx hself
  by_cases h0:ys.length=0
  ·have hys:ys=[]:=List.eq_nil_of_length_eq_zero h0
   subst hys
   refine ⟨.slice (some ad) xs.length xs.length,w,?_,Keep.refl _ w,hs,by rw [List.append_nil]; exact hself⟩
   rcases hy with ⟨rfl,_⟩ | ⟨b,off,cap,css,rfl,_⟩ | ⟨_,_,rfl,_⟩
   ·simp [Builtin.append_,run_underlying hu,Go.sizeOf,typeInfo,hi,Builtin.lenOf,Builtin.firstCells,storeCells]
   ·simp [Builtin.append_,run_underlying hu,Go.sizeOf,typeInfo,hi,Builtin.lenOf,Builtin.firstCells,storeCells,loadCells,loadCellsFrom]
   ·simp [Builtin.append_,run_underlying hu,Go.sizeOf,typeInfo,hi,Builtin.lenOf,Builtin.firstCells,storeCells,loadCells,loadCellsFrom]
  ·rcases hy with ⟨_,hy⟩ | ⟨b2,off2,cap2,fH,rfl,_,mM,zGy⟩ | ⟨_,_,_,hy⟩
   rotate_left 2
   ·subst hy; simp at h0
   ·subst hy; simp at h0
   ·have hfx:csx.flatten.length=xs.length * i.size:=by rw [flatten_length csx (eH zHa),zHa.length,his,hsz]
    have hfy:fH.flatten.length=ys.length * i.size:=by rw [flatten_length fH (eH mM),mM.length,his,hsz]
    have hrun:=run_append_grow (P:=C.P) w st ty e i z hu hi hz ad xs.length xs.length csx.flatten hfx hcx ⟨b2,off2,none⟩ ys.length cap2 fH.flatten hfy (kF zGy) (by omega) (by omega)
     (growslice_fits (by omega) (by rw [hib]; exact hroom))
    have hge:=grownCap_ge w (xs.length+ys.length) xs.length e
    have hcm:=grownCap_le_maxLen w (xs.length+ys.length) xs.length e (by simp only [maxLen]; omega)
    obtain ⟨g1,g2,g3⟩:=fin (csx.flatten.toArray++fH.flatten.toArray++Builtin.zeroCells z.cells (grownCap w (xs.length+ys.length) xs.length e - (xs.length+ys.length))) _ (csx++fH) (zHa.append mM) ⟨_,by rw [Array.toList_append,Array.toList_append,List.flatten_append]⟩ hge hcm
    exact ⟨_,_,hrun,g1,g2,g3⟩
 rcases hsl with ⟨rfl,h2⟩ | ⟨b,off,cap,css,rfl,hb,hn,hl,hm,hr,hz2,hc⟩ | ⟨ad,cap,rfl,rfl,hm⟩
 ·exact hnil h2 rfl
 ·simp only [Value.slice.injEq] at ht
  obtain ⟨_,h2,h3⟩:=ht
  have:cap=xs.length:=by omega
  subst this
  exact hsome _ css rfl hr (kF hc) ⟨_,rfl,.inr (.inl ⟨b,off,_,css,rfl,hb,hn,hl,hm,hr,hz2,hc⟩)⟩
 ·simp only [Value.slice.injEq] at ht
  obtain ⟨_,h2,h3⟩:=ht
  have:cap=0:=by omega
  subst this
  exact hsome ad [] rfl trivial (fun j u hu=>by simp at hu) ⟨_,rfl,.inr (.inr ⟨ad,0,rfl,rfl,hm⟩)⟩
end
end Go.Dec
namespace Go.Dec
def Ty.cmp:Ty->Bool
 | .unit | .bool | .int _ | .str=>true
 | .pair a b=>a.cmp && b.cmp
 | .arr _ a=>a.cmp
 | _=>false
def zN {α:Type} (f:α->α->Bool):List α->List α->Bool
 | [],[]=>true
 | x :: xs,y :: ys=>f x y && zN f xs ys
 | _,_=>false
def Ty.beq:(t:Ty)->t.den->t.den->Bool
 | .unit,_,_=>true
 | .bool,a,b=>Bool.beq' a b
 | .int _,a,b=>Int.beq' a b
 | .str,a,b=>List.beq' a b
 | .pair a b,x,y=>a.beq x.1 y.1 && b.beq x.2 y.2
 | .arr _ a,x,y=>zN (fun u v=>a.beq u v) x y
 | _,_,_=>false
where
 Bool.beq' (a b:Bool):Bool:=a == b
 Int.beq' (a b:Int):Bool:=a == b
 List.beq' (a b:List UInt8):Bool:=a == b
def valOf (agg:Bool) (cs:List Value):Value:=if agg then .agg cs.toArray else cs.getD 0 undef
section
variable {P:Program} {w:World} {N:Nat->Nat->Prop}
theorem Ee:∀ {n:Nat} {t:TypeId} {ty:Ty} {d:TypeDesc},dI P n t=some ty->P.underlying t=some d->ty.cmp=true->ty.isAgg=(TK.of d).isAgg
 | 0,_,_,_,h,_,_=>by simp [dI] at h
 | n+1,t,ty,d,h,hd,hc=>by
  simp only [dI,hd] at h
  cases d <;> simp only [aA,reduceCtorEq,Option.map_eq_some_iff] at h
  case bool=>subst h; rfl
  case int=>subst h; rfl
  case string=>subst h; rfl
  case slice=>obtain ⟨a,_,rfl⟩:=h; simp [Ty.cmp] at hc
  case array=>obtain ⟨a,_,rfl⟩:=h; rfl
  case func=>subst h; simp [Ty.cmp] at hc
  case interface=>subst h; split at hc <;> simp [Ty.cmp] at hc
  case struct fs =>
   revert h
   generalize fs.toList=l
   cases l with
   | nil=>intro h; simp at h; subst h; rfl
   | cons f l =>
    intro h
    simp only [List.foldr_cons] at h
    split at h
    ·simp only [aA] at h; subst h; rfl
    ·cases h
theorem Ef {t:TypeId} {ty:Ty} {n:Nat} {d:TypeDesc} {x:ty.den} {cx:List Value} {all:List Value} {off:Nat} (ht:dI P n t=some ty) (hd:P.underlying t=some d) (hc:ty.cmp=true) (hsz:ty.size=P.cellsOf t) (hx:ty.Rel w N x cx)
  (hat:(all.drop off).take cx.length=cx):(part t all.toArray off).run P w=.ok (valOf ty.isAgg cx) w:=by
 have hag:=Ee ht hd hc
 have hl:=hx.length
 have hrun:(isAgg t).run P w=.ok (TK.of d).isAgg w:=by
  simp only [isAgg,Sem.run_bind,run_underlying hd,Result.andThen_ok]
  cases d <;> rfl
 simp only [part,Sem.run_bind,hrun,Result.andThen_ok]
 rw [<- hag]
 cases h:ty.isAgg with
 | true =>
  have hi:∃ i,P.info? t=some i:=by
   unfold Program.underlying at hd
   split at hd
   ·rename_i h1; exact ⟨_,h1⟩
   ·rename_i i h1; exact ⟨_,h1⟩
   ·cases hd
  obtain ⟨i,hi⟩:=hi
  have hsz2:(sizeOf t).run P w=.ok (P.cellsOf t) w:=by simp [sizeOf,typeInfo,hi,Program.cellsOf]
  simp only [if_true,Sem.run_bind,hsz2,Result.andThen_ok,Sem.run_pure,valOf]
  congr 2
  rw [<- hsz,<- hl]
  apply Array.toList_inj.1
  simp only [Array.toList_extract,List.extract_eq_take_drop]
  rw [show off+cx.length - off=cx.length by omega]
  exact hat
 | false =>
  have h1:cx.length=1:=by
   rw [hl]
   cases ty <;> first | rfl | simp [Ty.isAgg] at h
  match cx,h1 with
  | [c],_ =>
   have hc0:all[off]?=some c:=by
    have:=congrArg (fun l=>l[0]?) hat
    simp only [List.getElem?_take,List.getElem?_drop,List.length_singleton,Nat.lt_add_one,if_true,Nat.add_zero,List.getElem?_cons_zero] at this
    exact this
   simp [valOf,hc0]
theorem Ww {α:Type} (f:α->α->Bool) (w:World) (step:Nat->Option Bool × Unit->Sem (ForInStep (Option Bool × Unit))):∀ (xs ys:List α),xs.length=ys.length->∀ k,
  (∀ i (h:i < xs.length) (h':i < ys.length),(step (k+i) (none,())).run P w=.ok (if f xs[i] ys[i]=true then .yield (none,()) else .done (some false,())) w) ->
  (forIn (List.range' k xs.length) (none,()) step).run P w=.ok (if zN f xs ys=true then (none,()) else (some false,())) w
 | [],[],_,k,_=>by simp [zN]
 | x :: xs,y :: ys,hl,k,h=>by
  have h0:=h 0 (by simp) (by simp)
  simp only [Nat.add_zero,List.getElem_cons_zero] at h0
  simp only [List.length_cons,List.range'_succ,List.forIn_cons,Sem.run_bind,h0,Result.andThen_ok,zN]
  rcases Bool.eq_false_or_eq_true (f x y) with hf | hf
  case inr=>simp [hf]
  case inl =>
   simp only [hf,if_true,Bool.true_and]
   exact Ww f w step xs ys (by simpa using hl) (k+1) fun i h1 h2=>by
    have:=h (i+1) (by simp; omega) (by simp; omega)
    simpa [Nat.add_assoc,Nat.add_comm 1 i] using this
 | [],_ :: _,hl,_,_=>by simp at hl
 | _ :: _,[],hl,_,_=>by simp at hl
def rX (P:Program) (n:Nat) (fs:List Field):Option Ty:=fs.foldr (fun f r=>match dI P n f.type,r with | some a,some b=>some (.pair a b) | _,_=>none) (some .unit)
theorem Iq {n : Nat} (ih : ∀ (t : TypeId) (ty : Ty) (x y : ty.den) (cx cy : List Value) (d : Nat), n <= d -> dI P n t = some ty -> xX P n t = true -> ty.cmp = true -> ty.Rel w N x cx -> ty.Rel w N y cy ->
      (Op.equalIn d t (valOf ty.isAgg cx) (valOf ty.isAgg cy)).run P w = .ok (ty.beq x y) w) (d : Nat) (hd : n <= d) (ax ay : List Value) :
    ∀ (fs : List Field) (off : Nat) (ty : Ty) (x y : ty.den) (cx cy : List Value), rX P n fs = some ty -> eqF P (xX P n) (dI P n) off fs = true -> ty.cmp = true -> ty.Rel w N x cx -> ty.Rel w N y cy -> ax.drop off = cx -> ay.drop off = cy ->
      (Op.eqFields d ax.toArray ay.toArray fs).run P w = .ok (ty.beq x y) w
  | [], off, ty, x, y, cx, cy, ht, he, hc, hx, hy, hax, hay => by
    simp only [rX, List.foldr_nil, aA] at ht
    subst ht
    simp [Op.eqFields, Ty.beq]
  | f :: fs, off, ty, x, y, cx, cy, ht, he, hc, hx, hy, hax, hay => by
    simp only [rX, List.foldr_cons] at ht
    split at ht
    · rename_i _ a b hta htb
      simp only [aA] at ht
      subst ht
      simp only [eqF, aF, hta] at he
      obtain ⟨⟨⟨⟨h1, h2⟩, h3⟩, h4⟩, h5⟩ := he
      have h1 : f.offset = off := by simpa using h1
      have h2 : f.name ≠ "_" := by simpa using h2
      have h4 : a.size = P.cellsOf f.type := by simpa using h4
      simp only [Ty.cmp, aF] at hc
      obtain ⟨c1, c2, e1, hx1, hx2⟩ := hx
      obtain ⟨d1, d2, e2, hy1, hy2⟩ := hy
      obtain ⟨dsc, Ir⟩ : ∃ dsc, P.underlying f.type = some dsc := by
        cases hu : P.underlying f.type with
        | some d => exact ⟨d, rfl⟩
        | none =>
          cases n with
          | zero => simp [dI] at hta
          | succ n => simp [dI, hu] at hta
      have hp1 := Ef (all := ax) (off := off) hta Ir hc.1 h4 hx1 (by rw [hax, e1, List.take_left])
      have hp2 := Ef (all := ay) (off := off) hta Ir hc.1 h4 hy1 (by rw [hay, e2, List.take_left])
      have hq := ih f.type a x.1 y.1 c1 d1 d hd hta h3 hc.1 hx1 hy1
      simp only [Op.eqFields, h2, ne_eq, not_false_eq_true, if_true, Sem.run_bind, h1, hp1, hp2, hq, Result.andThen_ok]
      cases hb : a.beq x.1 y.1 with
      | false => simp [Ty.beq, hb]
      | true =>
        simp only [Bool.not_true, Bool.false_eq_true, if_false]
        have := Iq ih d hd ax ay fs (off + P.cellsOf f.type) b x.2 y.2 c2 d2 htb h5 hc.2 hx2 hy2
          (by rw [<- h4, <- hx1.length, <- List.drop_drop, hax, e1, List.drop_left]) (by rw [<- h4, <- hy1.length, <- List.drop_drop, hay, e2, List.drop_left])
        rw [this]
        simp [Ty.beq, hb]
    · cases ht
theorem Aq : ∀ (n : Nat) (t : TypeId) (ty : Ty) (x y : ty.den) (cx cy : List Value) (d : Nat), n <= d -> dI P n t = some ty -> xX P n t = true -> ty.cmp = true -> ty.Rel w N x cx -> ty.Rel w N y cy ->
      (Op.equalIn d t (valOf ty.isAgg cx) (valOf ty.isAgg cy)).run P w = .ok (ty.beq x y) w
  | 0, _, _, _, _, _, _, _, _, h, _, _, _, _ => by simp [dI] at h
  | n + 1, t, ty, x, y, cx, cy, 0, hd, _, _, _, _, _ => by omega
  | n + 1, t, ty, x, y, cx, cy, d + 1, hd, ht, he, hc, hx, hy => by
    simp only [dI] at ht
    simp only [xX] at he
    split at ht
    · rename_i hu
      simp only [aA] at ht
      subst ht
      simp only [Ty.Rel] at hx hy
      subst hx hy
      simpa [valOf, Ty.isAgg, Ty.beq, Ty.beq.Bool.beq'] using run_equalIn_bool' w d t x y hu
    · rename_i k hu
      simp only [aA] at ht
      subst ht
      simp only [Ty.Rel] at hx hy
      subst hx hy
      simpa [valOf, Ty.isAgg, Ty.beq, Ty.beq.Int.beq'] using run_equalIn_int w d t k k x y hu
    · rename_i hu
      simp only [aA] at ht
      subst ht
      simp only [Ty.Rel] at hx hy
      subst hx hy
      have := run_equalIn_string (P := P) w d t ⟨x.toArray⟩ ⟨y.toArray⟩ hu
      rw [toList_mk, toList_mk] at this
      simpa [valOf, Ty.isAgg, Ty.beq, Ty.beq.List.beq'] using this
    · rename_i e hu
      cases hte : dI P n e with
      | none => rw [hte] at ht; cases ht
      | some a => rw [hte] at ht; simp only [Option.map_some, aA] at ht; subst ht; simp [Ty.cmp] at hc
    · rename_i k e hu
      cases hte : dI P n e with
      | none => rw [hte] at ht; cases ht
      | some a =>
        rw [hte] at ht
        simp only [Option.map_some, aA] at ht
        subst ht
        simp only [hu, hte, aF, beq_iff_eq] at he
        simp only [Ty.cmp] at hc
        obtain ⟨hxl, zHb, rfl, hax⟩ := hx
        obtain ⟨hyl, fH, rfl, hay⟩ := hy
        have hlx := eH hax
        have hly := eH hay
        obtain ⟨dsc, Ir⟩ : ∃ dsc, P.underlying e = some dsc := by
          cases hu : P.underlying e with
          | some d => exact ⟨d, rfl⟩
          | none =>
            cases n with
            | zero => simp [dI] at hte
            | succ n => simp [dI, hu] at hte
        obtain ⟨i, hi⟩ : ∃ i, P.info? e = some i := by
          unfold Program.underlying at Ir
          split at Ir
          · rename_i h1; exact ⟨_, h1⟩
          · rename_i i h1; exact ⟨_, h1⟩
          · cases Ir
        have hsz2 : (sizeOf e).run P w = .ok (P.cellsOf e) w := by simp [sizeOf, typeInfo, hi, Program.cellsOf]
        have hagg : (Ty.arr k a).isAgg = true := rfl
        simp only [hagg, valOf, if_true, Op.equalIn, Sem.run_bind, run_underlying hu, Result.andThen_ok, hsz2]
        rw [Std.Legacy.Range.forIn_eq_forIn_range']
        have hrange : Std.Legacy.Range.size { stop := k, step_pos := Nat.one_pos } = x.length := by simp [Std.Legacy.Range.size, hxl]
        simp only [hrange]
        rw [Ww (fun u v => a.beq u v) w _ x y (by rw [hxl, hyl]) 0 (fun i h1 h2 => by
          have h1' : i < zHb.length := by rw [<- hax.length]; exact h1
          have h2' : i < fH.length := by rw [<- hay.length]; exact h2
          have r1 := hax.get i h1 h1'
          have r2 := hay.get i h2 h2'
          have seg : ∀ (css : List (List Value)) (h : i < css.length), (∀ c ∈ css, c.length = a.size) -> (css.flatten.drop (i * a.size)).take css[i].length = css[i] := fun css h hl => by
            rw [iF css hl i, List.drop_eq_getElem_cons h, List.flatten_cons, List.take_left]
          have p1 := Ef (all := zHb.flatten) (off := i * a.size) hte Ir hc he.2 r1 (seg zHb h1' hlx)
          have p2 := Ef (all := fH.flatten) (off := i * a.size) hte Ir hc he.2 r2 (seg fH h2' hly)
          have q := Aq n e a x[i] y[i] zHb[i] fH[i] d (by omega) hte he.1 hc r1 r2
          simp only [Nat.zero_add, Sem.run_bind, <- he.2, p1, p2, Result.andThen_ok, q]
          rcases Bool.eq_false_or_eq_true (a.beq x[i] y[i]) with hb | hb <;> simp [hb])]
        simp only [Ty.beq]
        rcases Bool.eq_false_or_eq_true (zN (fun u v => a.beq u v) x y) with hb | hb <;> simp [hb]
    · rename_i fs hu
      have hf : P.fieldsOf t = fs := by simp [Program.fieldsOf, hu]
      simp only [hu, aF, Bool.not_eq_true'] at he
      have hagg : ty.isAgg = true := by
        have := Ee (n := n + 1) (t := t) (by simp only [dI, hu]; exact ht) hu hc
        simpa [TK.of, TK.isAgg] using this
      rw [hagg]
      simp only [valOf, if_true]
      rw [run_equalIn_struct w d t _ _ (by rw [hf]; exact hu) he.1, hf]
      exact Iq (Aq n) d (by omega) cx cy fs.toList 0 ty x y cx cy ht he.2 hc hx hy rfl rfl
    · simp only [aA] at ht; subst ht; split at hc <;> simp [Ty.cmp] at hc
    · simp only [aA] at ht; subst ht; simp [Ty.cmp] at hc
    · cases ht
end
end Go.Dec
namespace Go.Dec
def wK:Operand->Bool
 | .const (.pointer none) | .const .nilIface | .const .nilFunc | .const (.slice none 0 0)=>true
 | _=>false
def zAb (k:TK) (x:L) (c:Operand):Option Bool :=
 match k,c,x with
 | .ptr _,.const (.pointer none),.kD=>some true
 | .ptr _,.const (.pointer none),.ptr .. => some false
 | .ptr _,.const (.pointer none),.jB .. => some false
 | .ptr _,.const (.pointer none),.iV .. => some false
 | .iface _,.const .nilIface,.val .err b=>some (!b)
 | .func,.const .nilFunc,.clo .. => some false
 | .slice _,.const (.slice none 0 0),.bV=>some true
 | _,_,_=>none
def eqV (T:Tab) (xt:TypeId) (a b:List L):Option Bool :=
 match T.get xt with
 | some ti =>
  match ti.ty with
  | some ty =>
   if ti.eqs && ty.cmp && ty.isAgg then
    match bJ ty a,bJ ty b with
    | some (x,[]),some (y,[])=>some (ty.beq x y)
    | _,_=>none
   else none
  | none=>none
 | none=>none
def isEq:BinOp->Bool
 | .eql | .neq=>true
 | _=>false
def sgn (op:BinOp) (b:Bool):Bool :=
 match op with
 | .neq=>!b
 | _=>b
def Nw (T:Tab) (σ:St) (op:BinOp) (xt:TypeId) (x y:Operand):Option (Bool × V) :=
 if isEq op && wK y then
  match ovl σ x,T.get xt with
  | .one l,some ti =>
   match zAb ti.k l y with
   | some b=>some (true,.one (.val .bool (sgn op b)))
   | none=>none
  | _,_=>none
 else
  match ovl σ x,ovl σ y with
  | .one a,.one b =>
   match a,b with
   | .val .bool p,.val .bool q =>
    match T.get xt with
    | some ti=>match ti.k with
     | .bool=>match Yt op p q with
      | some (c,r)=>some (c,.one r)
      | none=>none
     | _=>none
    | none=>none
   | a,b=>match bin op a b with
    | some (c,r)=>some (c,.one r)
    | none=>none
  | .agg a,.agg b =>
   if isEq op then
    match eqV T xt a b with
    | some r=>some (true,.one (.val .bool (sgn op r)))
    | none=>none
   else none
  | _,_=>none
def vQ (T:Tab) (σ:St) (s d:TypeId) (x:Operand):Option (Bool × V) :=
 match T.get s,T.get d,ovl σ x with
 | some ts,some td,.one l =>
  match td.k,ts.k,l with
  | .int k,.int _,.val (.int _) n=>some (true,.one (.val (.int k) (k.wrap n)))
  | .str,.str,.val .str s=>some (true,.one (.val .str s))
  | _,_,_=>none
 | _,_,_=>none
def vals (σ:St):List (Nat × Operand)->List (Nat × V)
 | []=>[]
 | (i,x) :: r=>(i,ovl σ x) :: vals σ r
def wL (T:Tab) (σ:St) (t:TypeId) (parts:List (Nat × Operand)):Option (Bool × V) :=
 match T.get t with
 | some ti =>
  match ti.k with
  | .struct fs =>
   if fs.all fun p=>(T.get p.2).isSome then
    match build T fs ti.zls (vals σ parts) with
    | some ls=>some (true,.agg ls)
    | none=>none
   else none
  | _=>none
 | none=>none
def elems (σ:St) (te:Ty):Nat->List (Nat × Operand)->Option (List te.den)
 | _,[]=>some []
 | k,(i,x) :: r =>
  if Nat.beq i k then
   match (ovl σ x).leaves with
   | some ls =>
    match bJ te ls,elems σ te (k+1) r with
    | some (y,[]),some ys=>some (y :: ys)
    | _,_=>none
   | none=>none
  else none
def elemTy (T:Tab) (t:TypeId):Option (TypeId × Ty × TI) :=
 match T.get t with
 | some ts =>
  match ts.k with
  | .slice e =>
   match T.get e with
   | some ti =>
    match ti.ty with
    | some te=>if Nat.beq ti.size te.size && Nat.ble 1 te.size && Nat.ble 1 ti.bytes then some (e,te,ti) else none
    | none=>none
   | none=>none
  | _=>none
 | none=>none
def Ny (T:Tab) (σ:St) (t:TypeId) (x:Operand):Option (Bool × V) :=
 match T.get t,ovl σ x with
 | some ti,.one l =>
  match ti.k with
  | .arr n _=>some (true,.one (.val (.int .i64) (n:Int)))
  | .str=>match l with
   | .val .str s=>some (true,.one (.val (.int .i64) (s.length:Int)))
   | _=>none
  | .slice _=>match zRd σ.h (l.view σ.h) with
   | some (c,n)=>some (c,.one (.val (.int .i64) n))
   | none=>none
  | _=>none
 | _,_=>none
def uS (T:Tab) (σ:St) (t:TypeId) (s x:Operand):Option (Bool × V × List Ob) :=
 match elemTy T t,ovl σ s,ovl σ x with
 | some (e,te,ti),.one ls,.one lx =>
  match rowsOf σ.h te lx with
  | some (c,ys) =>
   match ls with
   | .bV=>some (c && Nat.ble (ys.length * ti.bytes) room,.one (.own σ.h.length 0),σ.h++[.arr e te 0 ys true])
   | .own id ver =>
    match σ.h[id]? with
    | some (.arr e' t' v rows true)=>if h:t'=te∧e'=e then
      some (c && (Nat.beq v ver && Nat.ble ((rows.length+ys.length) * ti.bytes) room),.one (.own id (ver+1)),σ.h.set id (.arr e te (ver+1) ((h.1 ▸ rows)++ys) true))
     else none
    | _=>none
   | .sl id ver off len =>
    match σ.h[id]? with
    | some (.arr e' t' v rows true)=>if h:t'=te∧e'=e then
      some (c && (Nat.beq v ver && (Nat.beq off 0 && (Nat.ble len rows.length && Nat.ble ((len+ys.length) * ti.bytes) room))),.one (.own id (ver+1)),σ.h.set id (.arr e te (ver+1) ((h.1 ▸ rows).take len++ys) true))
     else none
    | _=>none
   | .val (.clip t') xs=>if h:t'=te then some (c && Nat.ble ((xs.length+ys.length) * ti.bytes) room,.one (.val (.slice te) ((h ▸ xs)++ys)),σ.h) else none
   | _=>none
  | none=>none
 | _,_,_=>none
def bX (s:List UInt8):List Int:=s.map fun b=>(b.toNat:Int)
def Cy (T:Tab) (σ:St) (t t':TypeId) (s x:Operand):Option (Bool × V × List Ob) :=
 match elemTy T t,T.get t',ovl σ s,ovl σ x with
 | some (e,_,ti),some tx,.one (.own id ver),.one (.val .str u) =>
  match tx.k,σ.h[id]? with
  | .str,some (.arr e' (.int .u8) v rows true) =>
   some (Nat.beq e' e && (Nat.beq ti.size 1 && (Nat.beq v ver && Nat.ble ((rows.length+u.length) * ti.bytes) room)),.one (.own id (ver+1)),σ.h.set id (.arr e' (.int .u8) (ver+1) (rows++bX u) true))
  | _,_=>none
 | _,_,_,_=>none
def dV (T:Tab) (σ:St) (o:Oper):Option (Bool × V × List Ob) :=
 match o.op with
 | .move x=>some (true,ovl σ x,σ.h)
 | .assign x=>some (true,ovl σ x,σ.h)
 | .unOp op _ x =>
  match ovl σ x with
  | .one l=>match un op l with
   | some (c,r)=>some (c,.one r,σ.h)
   | none=>none
  | _=>none
 | .binOp op xt x y _=>match Nw T σ op xt x y with
  | some (c,v)=>some (c,v,σ.h)
  | none=>none
 | .convert s d x=>match vQ T σ s d x with
  | some (c,v)=>some (c,v,σ.h)
  | none=>none
 | .fieldAddr s x f =>
  match T.get s,ovl σ x with
  | some ti,.one l =>
   match ti.k with
   | .struct fs =>
    match fs[f]? with
    | some (off,ft) =>
     match T.get ft with
     | some tf=>if Nat.ble 1 tf.size then
       match zK σ.h l off with
       | some (c,r)=>some (c,.one r,σ.h)
       | none=>none
      else none
     | none=>none
    | none=>none
   | _=>none
  | _,_=>none
 | .indexAddr t x i =>
  match T.get t,ovl σ x,iQ (ovl σ i) with
  | some ti,.one l,some (_,n) =>
   match oP T σ.h ti.k (l.view σ.h) n with
   | some (c,r)=>some (c,.one r,σ.h)
   | none=>none
  | _,_,_=>none
 | .index t x i =>
  match T.get t,iQ (ovl σ i) with
  | some ti,some (_,n) =>
   match ti.k with
   | .str=>match idx (ovl σ x) n with
    | some (c,v)=>some (c,v,σ.h)
    | none=>none
   | _=>none
  | _,_=>none
 | .slice t x lo hi none =>
  match T.get t,ovl σ x,lK σ lo,lK σ hi with
  | some ti,.one l,some l0,some h0 =>
   match slice ti.k (l.view σ.h) l0 h0 σ.h with
   | some (c,r) =>
    match ti.k with
    | .slice e =>
     match T.get e with
     | some te =>
      match l.view σ.h with
      | .val (.slice a) _=>if Nat.beq a.size te.size then some (c,.one r,σ.h) else none
      | .sl id _ _ _ =>
       match σ.h[id]? with
       | some (.arr _ a _ _ _)=>if Nat.beq a.size te.size then some (c,.one r,σ.h) else none
       | _=>none
      | _=>none
     | none=>none
    | .str=>some (c,.one r,σ.h)
    | _=>none
   | none=>none
  | _,_,_,_=>none
 | .slice t x none (some hi) (some mx) =>
  match T.get t,ovl σ x,iQ (ovl σ hi),iQ (ovl σ mx) with
  | some ti,.one (.val (.slice a) xs),some (_,n),some (_,m) =>
   match ti.k with
   | .slice e =>
    match T.get e with
    | some te=>if Nat.beq a.size te.size then some (decide (n=(xs.length:Int)) && decide (m=(xs.length:Int)),.one (.val (.clip a) xs),σ.h) else none
    | none=>none
   | _=>none
  | _,_,_,_=>none
 | .build t parts=>match wL T σ t parts.toList with
  | some (c,v)=>some (c,v,σ.h)
  | none=>none
 | .extract x i=>match ext (ovl σ x) i with
  | some v=>some (true,v,σ.h)
  | none=>none
 | .load t x =>
  match ovl σ x with
  | .one l=>match loadAt T σ.h t l with
   | some (c,v)=>some (c,v,σ.h)
   | none=>none
  | _=>none
 | .store t x y =>
  match ovl σ x with
  | .one l=>match storeAt T σ.h t l (ovl σ y) with
   | some (c,h)=>some (c,.bB,h)
   | none=>none
  | _=>none
 | .nilCheck x =>
  match ovl σ x with
  | .one (.ptr id off)=>some (true,.one (.ptr id off),σ.h)
  | .one (.jB id off es i sub)=>some (true,.one (.jB id off es i sub),σ.h)
  | .one (.iV t y off)=>some (true,.one (.iV t y off),σ.h)
  | .one (.clo f cs)=>some (true,.one (.clo f cs),σ.h)
  | .one (.val .opq (.func (.func f) a b))=>some (true,.one (.val .opq (.func (.func f) a b)),σ.h)
  | _=>none
 | .makeFunc (.func f) first cs =>
  match Nat.blt f 1000000 with
  | true =>
   if first.size=0 then
    match caps σ cs.toList with
    | some ls=>some (true,.one (.clo f ls),σ.h)
    | none=>none
   else if cs.size=0 then
    match caps σ first.toList with
    | some (l :: ls)=>some (true,.one (.clo (f+1000000) (l :: ls)),σ.h)
    | _=>none
   else none
  | false=>none
 | .box e x =>
  match (ovl σ x).leaves with
  | some ls=>some (true,.one (.ptr σ.h.length 0),σ.h++[.box e ls])
  | none=>none
 | .alloc e =>
  match T.get e with
  | some ti=>some (true,.one (.ptr σ.h.length 0),σ.h++[.box e ti.zls])
  | none=>none
 | .buildSlice t n parts =>
  match elemTy T t with
  | some (e,te,_) =>
   if Nat.beq n parts.size && Nat.ble (n * te.size) 16777216 then
    match elems σ te 0 parts.toList with
    | some ys=>some (true,.one (.own σ.h.length 0),σ.h++[.arr e te 0 ys true])
    | none=>none
   else none
  | none=>none
 | .makeSlice t l c =>
  match elemTy T t,iQ (ovl σ l),iQ (ovl σ c) with
  | some (e,te,ti),some (.i64,n),some (.i64,m) =>
   match bJ te ti.zls with
   | some (z,[])=>some (decide (0 <= n) && (decide (n=m) && Nat.ble (n.toNat * ti.bytes) room),.one (.own σ.h.length 0),σ.h++[.arr e te 0 (List.replicate n.toNat z) true])
   | _=>none
  | _,_,_=>none
 | .call { callee:=.builtin b,args,argTypes } =>
  match b,args.toList,argTypes.toList with
  | .len,[x],[t]=>match Ny T σ t x with
   | some (c,v)=>some (c,v,σ.h)
   | none=>none
  | .append,[s,x],[t,t']=>if Nat.beq t t' then uS T σ t s x else Cy T σ t t' s x
  | .min,[x,y],_ =>
   match iQ (ovl σ x),iQ (ovl σ y) with
   | some (k,a),some (_,b)=>some (true,.one (.val (.int k) (if b < a then b else a)),σ.h)
   | _,_=>none
  | .max,[x,y],_ =>
   match iQ (ovl σ x),iQ (ovl σ y) with
   | some (k,a),some (_,b)=>some (true,.one (.val (.int k) (if b > a then b else a)),σ.h)
   | _,_=>none
  | _,_,_=>none
 | _=>none
end Go.Dec
namespace Go.Dec
section
variable {β:Nat->Pl} {w:World} {T:Tab} {C:Ctx}
theorem dQ {N:Nat->Nat->Prop} {v:V} {k:IntKind} {n:Int} {x:Value} (h:iQ v=some (k,n)) (hr:v.Rel β w N x):x=.int k n:=by
 unfold iQ at h
 split at h
 ·simp only [aA,aB] at h
  obtain ⟨rfl,rfl⟩:=h
  simp only [V.Rel,L.Rel,Ty.Rel,aK,and_true] at hr
  exact hr
 ·cases h
theorem zUf {N:Nat->Nat->Prop} {op:UnOp} {l r:L} {x:Value} (h:un op l=some (true,r)) (hr:l.Rel β w N [x]):∃ y,(Op.unary op x).run C.P w=.ok y w∧r.Rel β w N [y]:=by
 unfold un at h
 split at h
 ·simp only [aA,aB,true_and] at h
  subst h
  simp only [L.Rel,Ty.Rel,aK,and_true] at hr ⊢
  subst hr
  exact ⟨_,rfl,rfl⟩
 ·simp only [aA,aB,true_and] at h
  subst h
  simp only [L.Rel,Ty.Rel,aK,and_true] at hr ⊢
  subst hr
  exact ⟨_,rfl,rfl⟩
 ·cases h
theorem fF {op:BinOp} {t:TypeId} {x y:Operand} {a b:Value} (h1:a ≠ .nilIface∨b ≠ .nilIface) (h2:(∀ c,a ≠ .agg c)∨(∀ c,b ≠ .agg c)):(eqGuard op t x y a b).run C.P w=.ok () w:=by
 unfold eqGuard
 cases op <;> simp only [Bool.not_true,Bool.not_false,Bool.false_eq_true,if_false,if_true,Sem.run_pure] <;> try rfl
 all_goals
  split
  ·simp at h1
  ·rename_i c d
   rcases h2 with h2 | h2
   ·exact absurd rfl (h2 c)
   ·exact absurd rfl (h2 d)
  ·rfl
theorem iG {N:Nat->Nat->Prop} {ty:Ty} {ls:List L} {x:ty.den} {cs:List Value} (h:bJ ty ls=some (x,[])) (hr:aL β w N ls cs):ty.Rel w N x cs:=by
 obtain ⟨c1,c2,e,h1,h2⟩:=kK h hr
 simp only [aL] at h2
 subst h2
 rw [List.append_nil] at e
 subst e
 exact h1
theorem zSs {N:Nat->Nat->Prop} {xt:TypeId} {a b:List L} {r:Bool} {ca cb:List Value} {op:BinOp} {x y:Operand} (hT:aU C.P T) (h:eqV T xt a b=some r) (hop:isEq op=true) (ha:aL β w N a ca) (hb:aL β w N b cb) :
  (eqGuard op xt x y (.agg ca.toArray) (.agg cb.toArray)).run C.P w=.ok () w∧(binOp op xt (.agg ca.toArray) (.agg cb.toArray)).run C.P w=.ok (.bool (sgn op r)) w:=by
 unfold eqV at h
 split at h
 ·rename_i ti hti
  split at h
  ·rename_i ty hty
   split at h
   ·rename_i hc
    simp only [aF] at hc
    obtain ⟨⟨h1,h2⟩,h3⟩:=hc
    split at h
    ·rename_i p q hp hq
     simp only [aA] at h
     subst h
     have hok:=hT _ _ hti
     obtain ⟨hg,he⟩:=hok.eqs h1
     have hrp:=iG hp ha
     have hrq:=iG hq hb
     have hrun:=Aq (P:=C.P) (w:=w) (N:=N) 12 xt ty p q ca cb 10000 (by omega) (hok.ty.trans hty) he h2 hrp hrq
     simp only [valOf,h3,if_true] at hrun
     refine ⟨run_eqGuard_agg w op xt x y _ _ hg,?_⟩
     cases op <;> simp only [isEq,Bool.false_eq_true] at hop
     ·rw [run_eql_struct,hrun]; rfl
     ·rw [run_neq_struct,hrun]; rfl
    ·cases h
   ·cases h
  ·cases h
 ·cases h
theorem pQ {xt : TypeId} {u v : Value} {r : Bool} (d : Nat) (h : (xt ∈ ([] : List Nat)) ∨ (∃ e, C.P.underlying xt = some (.pointer e) ∧ ((u = .pointer none ∧ v = .pointer none ∧ r = true) ∨ (∃ a, u = .pointer (some a) ∧ v = .pointer none ∧ r = false))) ∨
      (∃ ms, C.P.underlying xt = some (.interface ms) ∧ ((u = .nilIface ∧ v = .nilIface ∧ r = true) ∨ (∃ t x, u = .iface t x ∧ v = .nilIface ∧ r = false))) ∨
      (∃ ps rs b, C.P.underlying xt = some (.func ps rs b) ∧ ∃ f x y, u = .func f x y ∧ v = .nilFunc ∧ r = false) ∨
      (∃ e, C.P.underlying xt = some (.slice e) ∧ u = .slice none 0 0 ∧ v = .slice none 0 0 ∧ r = true)) : (Op.equalIn (d + 1) xt u v).run C.P w = .ok r w := by
  rcases h with h | ⟨e, hu, ⟨rfl, rfl, rfl⟩ | ⟨a, rfl, rfl, rfl⟩⟩ | ⟨ms, hu, ⟨rfl, rfl, rfl⟩ | ⟨t, x, rfl, rfl, rfl⟩⟩ | ⟨ps, rs, b, hu, f, x, y, rfl, rfl, rfl⟩ | ⟨e, hu, rfl, rfl, rfl⟩
  · cases h
  all_goals simp only [Op.equalIn, Sem.run_bind, run_underlying hu, Result.andThen_ok, Sem.run_pure, Option.isNone_none]
theorem pR {xt:TypeId} {u v:Value} {r:Bool} {op:BinOp} {x y:Operand} (hop:isEq op=true) (hg:(eqGuard op xt x y u v).run C.P w=.ok () w) (hs:(∃ a b,u=.pointer a∧v=.pointer b)∨(v=.nilIface)∨(v=.nilFunc)∨(∃ a b c d e f,u=.slice a b c∧v=.slice d e f))
  (h:∀ d,(Op.equalIn (d+1) xt u v).run C.P w=.ok r w):((do eqGuard op xt x y u v; binOp op xt u v:Sem Value)).run C.P w=.ok (.bool (sgn op r)) w:=by
 rw [Sem.run_bind,hg,Result.andThen_ok]
 have h':(Op.equal xt u v).run C.P w=.ok r w:=h 9999
 cases op <;> simp only [isEq,Bool.false_eq_true] at hop
 all_goals
  rcases hs with ⟨a,b,rfl,rfl⟩ | rfl | rfl | ⟨a,b,c,d,e,f,rfl,rfl⟩
  ·simp only [binOp,Sem.run_bind,h',Result.andThen_ok,Sem.run_pure,sgn]
  ·cases u <;> simp only [binOp,Sem.run_bind,h',Result.andThen_ok,Sem.run_pure,sgn]
  ·cases u <;> simp only [binOp,Sem.run_bind,h',Result.andThen_ok,Sem.run_pure,sgn]
  ·simp only [binOp,Sem.run_bind,h',Result.andThen_ok,Sem.run_pure,sgn]
theorem zLh {N:Nat->Nat->Prop} {xt:TypeId} {ti:TI} {l:L} {x y:Operand} {ρ:Operand->Value} {op:BinOp} {b:Bool} (hT:aU C.P T) (hti:T.get xt=some ti) (h:zAb ti.k l y=some b) (hop:isEq op=true) (hr:l.Rel β w N [ρ x]) (hc:∀ v,ρ (.const v)=v) :
  ((do eqGuard op xt x y (ρ x) (ρ y); binOp op xt (ρ x) (ρ y):Sem Value)).run C.P w=.ok (.bool (sgn op b)) w:=by
 have hok:=hT _ _ hti
 unfold zAb at h
 split at h <;> simp only [aA,reduceCtorEq] at h <;> subst h
 ·rename_i e _ hk
  simp only [L.Rel,aK,and_true] at hr
  rw [hr,hc]
  exact pR hop (fF (.inl (by simp)) (.inl (by simp))) (.inl ⟨_,_,rfl,rfl⟩) fun d=>pQ d (.inr (.inl ⟨_,hok.ptr hk,.inl ⟨rfl,rfl,rfl⟩⟩))
 ·rename_i e id off hk
  simp only [L.Rel,aK,and_true] at hr
  obtain ⟨_,_,b,_,hr⟩:=hr
  rw [hr,hc]
  exact pR hop (fF (.inl (by simp)) (.inl (by simp))) (.inl ⟨_,_,rfl,rfl⟩) fun d=>pQ d (.inr (.inl ⟨_,hok.ptr hk,.inr ⟨_,rfl,rfl,rfl⟩⟩))
 ·rename_i e id off es i sub hk
  simp only [L.Rel,aK,and_true] at hr
  obtain ⟨_,_,b,_,hr⟩:=hr
  rw [hr,hc]
  exact pR hop (fF (.inl (by simp)) (.inl (by simp))) (.inl ⟨_,_,rfl,rfl⟩) fun d=>pQ d (.inr (.inl ⟨_,hok.ptr hk,.inr ⟨_,rfl,rfl,rfl⟩⟩))
 ·rename_i e t x off hk
  simp only [L.Rel,aK,and_true] at hr
  obtain ⟨c,hr,b,o,cs,rfl,_⟩:=hr
  rw [hr,hc]
  exact pR hop (fF (.inl (by simp)) (.inl (by simp))) (.inl ⟨_,_,rfl,rfl⟩) fun d=>pQ d (.inr (.inl ⟨_,hok.ptr hk,.inr ⟨_,rfl,rfl,rfl⟩⟩))
 ·rename_i e bb hk
  simp only [L.Rel,Ty.Rel,aK,and_true] at hr
  obtain ⟨v,hr,hv⟩:=hr
  obtain ⟨ms,hu⟩:=hok.iface hk
  rcases hv with ⟨rfl,t,x,rfl⟩ | ⟨rfl,rfl⟩
  ·rw [hr,hc]
   exact pR hop (fF (.inl (by simp)) (.inl (by simp))) (.inr (.inl rfl)) fun d=>pQ d (.inr (.inr (.inl ⟨_,hu,.inr ⟨_,_,rfl,rfl,rfl⟩⟩)))
  ·rw [hr,hc]
   exact pR hop (by cases op <;> simp [isEq] at hop <;> simp [eqGuard]) (.inr (.inl rfl)) fun d=>pQ d (.inr (.inr (.inl ⟨_,hu,.inl ⟨rfl,rfl,rfl⟩⟩)))
 ·rename_i f cs hk
  simp only [L.Rel,aK,and_true] at hr
  obtain ⟨us,hr,_⟩:=hr
  obtain ⟨g,p,q,e⟩:=Ue f us
  rw [e] at hr
  obtain ⟨d,hd,hk'⟩:=hok.und
  rw [hk] at hk'
  cases d <;> simp only [TK.of,reduceCtorEq] at hk'
  rw [hr,hc]
  exact pR hop (fF (.inl (by simp)) (.inl (by simp))) (.inr (.inr (.inl rfl))) fun d=>pQ d (.inr (.inr (.inr (.inl ⟨_,_,_,hd,_,_,_,rfl,rfl,rfl⟩))))
 ·rename_i e hk
  simp only [L.Rel,aK,and_true] at hr
  rw [hr,hc]
  exact pR hop (fF (.inl (by simp)) (.inl (by simp))) (.inr (.inr (.inr ⟨_,_,_,_,_,_,rfl,rfl⟩))) fun d=>pQ d (.inr (.inr (.inr (.inr ⟨_,hok.slice hk,rfl,rfl,rfl⟩))))
theorem zSt {N:Nat->Nat->Prop} {op:BinOp} {xt:TypeId} {x y:Operand} {a b r:L} {u v:Value} (hnb:∀ p q,¬ (a=.val .bool p∧b=.val .bool q)) (h:bin op a b=some (true,r)) (ha:a.Rel β w N [u]) (hb:b.Rel β w N [v]) :
  ∃ z,((do eqGuard op xt x y u v; binOp op xt u v:Sem Value)).run C.P w=.ok z w∧r.Rel β w N [z]:=by
 unfold bin at h
 split at h
 ·simp only [L.Rel,Ty.Rel,aK,and_true] at ha hb
  subst ha hb
  rw [Sem.run_bind,fF (.inl (by simp)) (.inl (by simp)),Result.andThen_ok]
  split at h
  ·exact zGt xt h
  ·rename_i hs
   split at h
   ·rename_i hk
    subst hk
    exact zOg xt (by simpa using hs) h
   ·cases h
 ·simp only [L.Rel,Ty.Rel,aK,and_true] at ha hb
  subst ha hb
  rw [Sem.run_bind,fF (.inl (by simp)) (.inl (by simp)),Result.andThen_ok]
  exact zOh xt h
 ·rename_i p q
  exact absurd ⟨rfl,rfl⟩ (hnb p q)
 ·cases h
theorem zOk {σ:St} {a:Act} {op:BinOp} {xt:TypeId} {x y:Operand} {v:V} (hT:aU C.P T) (hs:Sim C β σ a w) (h:Nw T σ op xt x y=some (true,v)) :
  ∃ z,((do eqGuard op xt x y (a.eval x) (a.eval y); binOp op xt (a.eval x) (a.eval y):Sem Value)).run C.P w=.ok z w∧v.Rel β w (C.N β σ.h) z:=by
 have hx:=aP hs x
 have hy:=aP hs y
 unfold Nw at h
 split at h
 ·rename_i hc
  simp only [aF] at hc
  split at h
  ·rename_i l ti hl hti
   split at h
   ·rename_i b hb
    simp only [aA,aB,true_and] at h
    subst h
    rw [hl] at hx
    exact ⟨_,zLh (N:=C.N β σ.h) (ρ:=a.eval) hT hti hb hc.1 hx (fun _=>rfl),by simp only [V.Rel,L.Rel,Ty.Rel]⟩
   ·cases h
  ·cases h
 ·split at h
  ·rename_i p q hp hq
   rw [hp] at hx
   rw [hq] at hy
   split at h
   ·rename_i p q _
    split at h
    ·rename_i ti hti
     split at h
     ·rename_i hk
      split at h
      ·rename_i c r hb
       simp only [aA,aB] at h
       obtain ⟨rfl,rfl⟩:=h
       simp only [V.Rel,L.Rel,Ty.Rel,aK,and_true] at hx hy
       rw [hx,hy,Sem.run_bind,fF (.inl (by simp)) (.inl (by simp)),Result.andThen_ok]
       exact zLc xt ((hT _ _ hti).bool hk) hb
      ·cases h
     ·cases h
    ·cases h
   ·rename_i a1 b1 hnb
    split at h
    ·rename_i c r hb
     simp only [aA,aB] at h
     obtain ⟨rfl,rfl⟩:=h
     exact zSt (N:=C.N β σ.h) (fun p q hpq=>hnb p q hpq.1 hpq.2) hb hx hy
    ·cases h
  ·rename_i p q hp hq
   rw [hp] at hx
   rw [hq] at hy
   split at h
   ·rename_i hop
    split at h
    ·rename_i r hr
     simp only [aA,aB,true_and] at h
     subst h
     obtain ⟨ca,hca,hra⟩:=hx
     obtain ⟨cb,hcb,hrb⟩:=hy
     rw [hca,hcb]
     obtain ⟨h1,h2⟩:=zSs (x:=x) (y:=y) hT hr hop hra hrb
     exact ⟨_,by rw [Sem.run_bind,h1,Result.andThen_ok,h2],by simp only [V.Rel,L.Rel,Ty.Rel]⟩
    ·cases h
   ·cases h
  ·cases h
theorem zLi {σ:St} {a:Act} {s d:TypeId} {x:Operand} {v:V} (hT:aU C.P T) (hs:Sim C β σ a w) (h:vQ T σ s d x=some (true,v)) :
  ∃ z,(convert s d (a.eval x)).run C.P w=.ok z w∧v.Rel β w (C.N β σ.h) z:=by
 have hx:=aP hs x
 unfold vQ at h
 split at h
 ·rename_i ts td l hts htd hl
  rw [hl] at hx
  split at h
  ·rename_i k ks kn n hkd hks
   simp only [aA,aB,true_and] at h
   subst h
   simp only [V.Rel,L.Rel,Ty.Rel,aK,and_true] at hx
   rw [hx]
   refine ⟨.int k (k.wrap n),?_,by simp only [V.Rel,L.Rel,Ty.Rel]⟩
   simp only [convert,Sem.run_bind,run_underlying ((hT _ _ hts).int hks),run_underlying ((hT _ _ htd).int hkd),Result.andThen_ok,Conv.intToInt,Sem.run_pure]
  ·rename_i s0 hkd hks
   simp only [aA,aB,true_and] at h
   subst h
   simp only [V.Rel,L.Rel,Ty.Rel,aK,and_true] at hx
   rw [hx]
   refine ⟨.string ⟨s0.toArray⟩,?_,by simp only [V.Rel,L.Rel,Ty.Rel]⟩
   simp only [convert,Sem.run_bind,run_underlying ((hT _ _ hts).str hks),run_underlying ((hT _ _ htd).str hkd),Result.andThen_ok,Sem.run_pure]
  ·cases h
 ·cases h
theorem Ar (places:Nat->Option (Nat × Nat)) (cs:Array Value) (i off size:Nat) (v:Value) (rest:List (Nat × Value)) (hp:places i=some (off,size)) (hsz:v.cells.size=size) (hfit:off+size <= cs.size) :
  Instr.fill places cs ((i,v) :: rest)=Instr.fill places (cs.toList.take off++v.cells.toList++cs.toList.drop (off+size)).toArray rest:=by
 simp only [Instr.fill,hp]
 rw [if_neg (by simp only [Bool.or_eq_true,decide_eq_true_eq,not_or]; constructor <;> omega)]
 congr 1
 have key:∀ (vs:List Value) (k:Nat) (cs:Array Value),off+k+vs.length <= cs.size ->
   (vs.zipIdx k).foldl (fun (cs:Array Value) (p:Value × Nat)=>cs.setIfInBounds (off+p.2) p.1) cs=(cs.toList.take (off+k)++vs++cs.toList.drop (off+k+vs.length)).toArray:=by
  intro vs
  induction vs with
  | nil=>intro k cs _; simp
  | cons v vs ih =>
   intro k cs hk
   simp only [List.zipIdx_cons,List.foldl_cons]
   rw [ih (k+1) _ (by simp at hk ⊢; omega)]
   have e:=list_seg_step cs.toList (off+k) v vs (by simp at hk ⊢; omega)
   congr 1
   simpa [Array.toList_setIfInBounds,Nat.add_assoc] using e
 rw [<- Array.foldl_toList]
 have:=key v.cells.toList 0 cs (by simp; omega)
 simp only [Nat.add_zero,Array.length_toList,hsz] at this
 rw [<- this]
 simp [Array.toList_zipIdx]
theorem Qr {N:Nat->Nat->Prop} {fs:List (Nat × TypeId)} {places:Nat->Option (Nat × Nat)} (hT:aU C.P T) (hpl:∀ i off ft ti,fs[i]?=some (off,ft)->T.get ft=some ti->places i=some (off,ti.size)) :
  ∀ (parts:List (Nat × V)) (vs:List (Nat × Value)) (ls ls':List L) (cs:Array Value),build T fs ls parts=some ls'->aL β w N ls cs.toList->aQ (fun (p:Nat × V) (q:Nat × Value)=>p.1=q.1∧p.2.Rel β w N q.2) parts vs ->
   ∃ cs':Array Value,Instr.fill places cs vs=some cs'∧aL β w N ls' cs'.toList
 | [],[],ls,ls',cs,h,hr,_=>by
  simp only [build,aA] at h
  subst h
  exact ⟨cs,rfl,hr⟩
 | (i,v) :: parts,(j,x) :: vs,ls,ls',cs,h,hr,ha=>by
  obtain ⟨⟨e,hv⟩,ha⟩:=ha
  simp only at e
  subst e
  simp only [build] at h
  split at h
  ·rename_i off ft new hf hn
   split at h
   ·rename_i ti hti
    split at h
    ·rename_i hsz
     split at h
     ·rename_i ls1 hset
      have hrx:=V.tX hn hv
      obtain ⟨hr1,hle⟩:=Io hset hr hrx
      have hxs:x.cells.size=ti.size:=by rw [<- hsz,<- hrx.length]; simp
      have hxl:x.cells.toList.length=ti.size:=by simpa using hxs
      rw [hxl] at hr1 hle
      have hfit:off+ti.size <= cs.size:=by simpa using hle
      rw [Ar places cs i off ti.size x vs (hpl i off ft ti hf hti) hxs hfit]
      exact Qr hT hpl parts vs ls1 ls' _ h (by simpa [List.append_assoc] using hr1) ha
     ·cases h
    ·cases h
   ·cases h
  ·cases h
 | [],_ :: _,_,_,_,_,_,ha=>ha.elim
 | _ :: _,[],_,_,_,_,_,ha=>ha.elim
theorem zAc {σ:St} {a:Act} (hs:Sim C β σ a w):∀ parts:List (Nat × Operand),aQ (fun (p:Nat × V) (q:Nat × Value)=>p.1=q.1∧p.2.Rel β w (C.N β σ.h) q.2) (vals σ parts) (parts.map fun p=>(p.1,a.eval p.2))
 | []=>trivial
 | (_i,x) :: r=>⟨⟨rfl,aP hs x⟩,zAc hs r⟩
theorem zHc {σ:St} {a:Act} {t:TypeId} {parts:Array (Nat × Operand)} {v:V} (hT:aU C.P T) (hs:Sim C β σ a w) (h:wL T σ t parts.toList=some (true,v)) :
  ∃ z,(Instr.build t (parts.map fun p=>(p.1,a.eval p.2))).run C.P w=.ok z w∧v.Rel β w (C.N β σ.h) z:=by
 unfold wL at h
 split at h
 ·rename_i ti hti
  split at h
  ·rename_i fs hk
   split at h
   case isFalse=>cases h
   rename_i hpl
   split at h
   ·rename_i ls hb
    simp only [aA,aB,true_and] at h
    subst h
    have hok:=hT _ _ hti
    obtain ⟨ff,hu,rfl⟩:=hok.struct hk
    obtain ⟨_,z,hi,his,hib,hz,kP,hzs,zHd⟩:=hok.i
    have hmap:∀ (l:List Field) (_:∀ f ∈ l,(T.get f.type).isSome=true) (acc:Array (Nat × Nat)),(l.foldlM (fun (acc:Array (Nat × Nat)) f=>do
      let s <- sizeOf f.type
      pure (acc.push (f.offset,s))) acc:Sem (Array (Nat × Nat))).run C.P w=.ok (acc++(l.map fun f=>(f.offset,((T.get f.type).map (·.size)).getD 0)).toArray) w:=by
     intro l
     induction l with
     | nil=>intro _ acc; simp
     | cons f l ih =>
      intro hl acc
      obtain ⟨tf,htf⟩:=Option.isSome_iff_exists.1 (hl f (.head _))
      simp only [List.foldlM_cons,Sem.run_bind,(hT _ _ htf).sizeOf,Result.andThen_ok,Sem.run_pure]
      rw [ih (fun g hg=>hl g (.tail _ hg))]
      simp [htf]
    have hall:∀ f ∈ ff.toList,(T.get f.type).isSome=true:=fun f hf=>List.all_eq_true.1 hpl (f.offset,f.type) (List.mem_map.2 ⟨f,hf,rfl⟩)
    have Ug:(ff.mapM (fun f=>do pure (f.offset,<- sizeOf f.type)):Sem (Array (Nat × Nat))).run C.P w=.ok ((ff.toList.map fun f=>(f.offset,((T.get f.type).map (·.size)).getD 0)).toArray) w:=by
     rw [Array.mapM_eq_foldlM,<- Array.foldlM_toList]
     have:=hmap ff.toList hall #[]
     simp only [bind_pure_comp] at this ⊢
     simpa using this
    have zYe:∀ (i off:Nat) (ft:TypeId) (tf:TI),(ff.toList.map fun f=>(f.offset,f.type))[i]?=some (off,ft)->T.get ft=some tf->(((ff.toList.map fun f=>(f.offset,((T.get f.type).map (·.size)).getD 0)).toArray)[i]?:Option (Nat × Nat))=some (off,tf.size):=by
     intro i off ft tf h1 h2
     simp only [List.getElem?_map,Option.map_eq_some_iff,aB,List.getElem?_toArray] at h1 ⊢
     obtain ⟨f,hf,rfl,rfl⟩:=h1
     exact ⟨f,hf,rfl,by simp [h2]⟩
    obtain ⟨cs',zXd,hr⟩:=Qr (β:=β) (w:=w) (N:=C.N β σ.h) (places:=fun i=>(((ff.toList.map fun f=>(f.offset,((T.get f.type).map (·.size)).getD 0)).toArray)[i]?:Option (Nat × Nat))) hT zYe (vals σ parts.toList) (parts.toList.map fun p=>(p.1,a.eval p.2)) ti.zls ls z.cells hb (kP _ _ _) (zAc hs _)
    refine ⟨.agg cs',?_,⟨cs'.toList,rfl,hr⟩⟩
    have hzv:(zeroValue t).run C.P w=.ok z w:=by simp [zeroValue,typeInfo,hi,hz]
    simp only [Instr.build,Sem.run_bind,hzv,Result.andThen_ok,run_underlying hu,Ug,Array.toList_map]
    rw [zXd]
    rfl
   ·cases h
  ·cases h
 ·cases h
theorem zSu {N:Nat->Nat->Prop} {v r:V} {i:Nat} {x:Value} (h:ext v i=some r) (hr:v.Rel β w N x):∃ z,(Instr.extract x i).run C.P w=.ok z w∧r.Rel β w N z:=by
 unfold ext at h
 split at h
 ·rename_i vs
  obtain ⟨us,rfl,hall⟩:=hr
  have hi:i < vs.length:=by
   rcases aY i vs.length with h1 | h1
   ·exact h1
   ·rw [List.getElem?_eq_none h1] at h; cases h
  have hi1:i < us.length:=by rw [<- hall.length]; exact hi
  have hrel:=hall.get i hi hi1
  rw [List.getElem?_eq_getElem hi] at h
  refine ⟨us[i],by simp [Instr.extract,hi1],?_⟩
  split at h
  ·rename_i l hl
   simp only [aA] at h hl
   subst h
   rw [hl] at hrel
   exact hrel
  ·rename_i ls hl
   simp only [aA] at h hl
   subst h
   rw [hl] at hrel
   exact hrel
  ·cases h
 ·cases h
end
end Go.Dec
