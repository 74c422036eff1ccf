/- Part of a proof over this seat: a library of my own, and what it says of this seat. No statement is proved here. -/
import Derived.Test.YtlimifngdjkogaaGreatDoorPartBK
import Derived.Test.YtlimifngdjkogaaGreatDoorPartBB
import Derived.WalkKit
import Derived.WalkSmall
import Derived.Defers
import Derived.Recover
import Derived.Laws.Pointers
import Derived.RangeFuncRecord
namespace Go.Proofs
open Go.Ce Go.RowKit
theorem gK {w : World} {b i : Nat} {cs : Array Value} {t : TypeId} {f : Nat × Nat} {v : Value} (h : w.heap[b]? = some (.cells cs t f)) : (w.setCell ⟨b, i, none⟩ v).heap[b]? = some (.cells (cs.setIfInBounds i v) t f) := by
 unfold World.setCell
 rw [Array.getElem?_modify, if_pos rfl, h]
 rfl
theorem fO {w : World} {b i k : Nat} {v : Value} (h : k ≠ b) : (w.setCell ⟨b, i, none⟩ v).heap[k]? = w.heap[k]? := by
 unfold World.setCell
 rw [Array.getElem?_modify, if_neg (fun e => h e.symm)]
def oQ (b : Nat) (w w' : World) : Prop := w.heap.size <= w'.heap.size ∧ (∀ k, k < w.heap.size -> k ≠ b -> w'.heap[k]? = w.heap[k]?) ∧ w'.os = w.os ∧ w'.tape = w.tape ∧ w'.output = w.output
theorem Tryz.catch_idle (p : Addr) (w : World) :
  CallsD Tryz.prog 110 #[.pointer (some p)] .returning w fun e u' w' => e = .returned (.tuple #[]) ∧ u' = .returning ∧ w' = w := by
 refine callsD_of_wpS Tryz.func110 rfl fun c₀ cs hu => ?_
 apply wpS_seq
 apply wpS_region
 simp [wpOpsS, go_sem, recoverD, hu, Tryz.ntmps110, Exit.thenS]
 have e : ∀ (x y : Value), (#[x] ++ (Array.replicate 10 undef).setIfInBounds 3 y : Array Value) = #[x, undef, undef, undef, y, undef, undef, undef, undef, undef, undef] := fun _ _ => rfl
 rw [e]
 refine wpS_of_wp ?_
 go_wp2
 cases c₀
 simp_all [bodyPostS, results, Tryz.results110]
set_option maxRecDepth 100000 in
theorem Tryz.catch_panicking (pb : Nat) (k : IntKind) (a : Int) (older : List PanicEntry) (w : World) (hc : w.heap[pb]? = some (.cells #[.int .i64 0] 64 (0, 0))) :
  CallsD Tryz.prog 110 #[.pointer (some ⟨pb, 0, none⟩)] (.panicking ({ v := .iface 64 (.int .i64 a), recovered := false } :: older)) w fun e u' w' =>
   e = .returned (.tuple #[]) ∧ u' = .panicking ({ v := .iface 64 (.int .i64 a), recovered := true } :: older) ∧ w'.heap[pb]? = some (.cells #[.int .i64 a] 64 (0, 0)) ∧ oQ pb w w' := by
 refine callsD_of_wpS Tryz.func110 rfl fun c₀ cs hu => ?_
 apply wpS_seq
 apply wpS_region
 simp [wpOpsS, go_sem, recoverD, hu, Tryz.ntmps110, Exit.thenS]
 have e : ∀ (x y : Value), (#[x] ++ (Array.replicate 10 undef).setIfInBounds 3 y : Array Value) = #[x, undef, undef, undef, y, undef, undef, undef, undef, undef, undef] := fun _ _ => rfl
 rw [e]
 refine wpS_of_wp ?_
 have hta : ∀ (v : Value) (w : World), (Instr.typeAssert (.iface 64 v) 20 64 true).run Tryz.prog w = .ok (.tuple #[v, .bool true]) w := fun _ _ => by kernel_rfl
 have hlt : pb < w.heap.size := (Array.getElem?_eq_some_iff.1 hc).1
 have hc0 : w.cell? ⟨pb, 0, none⟩ = some (.int .i64 0) := by simp [World.cell?, hc]
 have hz0 : w.frozen? ⟨pb, 0, none⟩ = false := by simp [World.frozen?, hc]
 go_wp2
 have hs1 := gK (i := 0) (v := .int .i64 a) hc
 have hs3 : ∀ k, k ≠ pb -> (w.setCell ⟨pb, 0, none⟩ (.int .i64 a)).heap[k]? = w.heap[k]? := fun k hk => fO hk
 have hs4 : (w.setCell ⟨pb, 0, none⟩ (.int .i64 a)).heap.size = w.heap.size := by simp
 have hs5 : (w.setCell ⟨pb, 0, none⟩ (.int .i64 a)).heap[pb]? = some (.cells #[.int .i64 a] 64 (0, 0)) := hs1
 have hb : oQ pb w (w.setCell ⟨pb, 0, none⟩ (.int .i64 a)) := ⟨Nat.le_of_eq hs4.symm, fun k _ hk => hs3 k hk, rfl, rfl, rfl⟩
 clear hs1 hs3 hs4 hc0 hz0 hta
 generalize w.setCell ⟨pb, 0, none⟩ (.int .i64 a) = W at *
 cases c₀
 simp [bodyPostS, results, Tryz.results110, hs5, hb, go_sem]
theorem Tryz.tried_calls {g : FuncId} {first caps : Array Value} {w : World} (eg : (callFunc g (first ++ caps)).run Tryz.prog (w.alloc (.cells #[.int .i64 0] 64)) = .ok (.enter g (first ++ caps)) (w.alloc (.cells #[.int .i64 0] 64))) {R : Ending -> World -> Prop}
  (hg : Calls Tryz.prog g (first ++ caps) (w.alloc (.cells #[.int .i64 0] 64)) fun e w2 => w2.heap[w.heap.size]? = some (.cells #[.int .i64 0] 64 (0, 0)) ∧ R e w2 ∧ (e = .returned (.tuple #[]) ∨ ∃ a, e = .panicked [{ v := .iface 64 (.int .i64 a), recovered := false }])) :
  Calls Tryz.prog 57 #[.func (.func g) first caps] w fun e w' => ∃ e2 w2, R e2 w2 ∧ oQ w.heap.size w2 w' ∧ ((e2 = .returned (.tuple #[]) ∧ e = .returned (.int .i64 0)) ∨ ∃ a, e2 = .panicked [{ v := .iface 64 (.int .i64 a), recovered := false }] ∧ e = .returned (.int .i64 a)) := by
 have hmf : ∀ (fn : Fn) (first cap : Array Value) (w : World), (Instr.makeFunc fn first cap).run Tryz.prog w = .ok (.func fn first cap) w := fun _ _ _ _ => rfl
 go_enter_defers Tryz.func57, Tryz.ntmps57
 go_wp2
 refine hg.mono ?_
 rintro e w2 ⟨hb, hR, (rfl | ⟨a, rfl⟩)⟩
 ·have hlt : w.heap.size < w2.heap.size := (Array.getElem?_eq_some_iff.1 hb).1
  have hc0 : w2.cell? ⟨w.heap.size, 0, none⟩ = some (.int .i64 0) := by simp [World.cell?, hb]
  have hz0 : w2.frozen? ⟨w.heap.size, 0, none⟩ = false := by simp [World.frozen?, hb]
  have hs1 := gK (i := 0) (v := .int .i64 0) hb
  have hs3 : ∀ k, k ≠ w.heap.size -> (w2.setCell ⟨w.heap.size, 0, none⟩ (.int .i64 0)).heap[k]? = w2.heap[k]? := fun k hk => fO hk
  have hs4 : (w2.setCell ⟨w.heap.size, 0, none⟩ (.int .i64 0)).heap.size = w2.heap.size := by simp
  have hbo : oQ w.heap.size w2 (w2.setCell ⟨w.heap.size, 0, none⟩ (.int .i64 0)) := ⟨Nat.le_of_eq hs4.symm, fun k _ hk => hs3 k hk, rfl, rfl, rfl⟩
  go_wp2
  clear hs3 hs4 hc0 hz0
  generalize w2.setCell ⟨w.heap.size, 0, none⟩ (.int .i64 0) = W at *
  have hd0 : W.cell? ⟨w.heap.size, 0, none⟩ = some (.int .i64 0) := by simp [World.cell?, hs1]
  refine leaves_cons (f := 110) (args := #[.pointer (some ⟨w.heap.size, 0, none⟩)]) (by simp) (by simp [go_sem, Tryz.call110]) ?_
  refine (Tryz.catch_idle ⟨w.heap.size, 0, none⟩ _).mono ?_
  rintro e u' w'' ⟨rfl, rfl, rfl⟩
  simp [Leaves, settle, results, Tryz.results57, go_sem, hd0]
  exact ⟨_, w2, hR, hbo, by simp⟩
 ·refine leaves_cons (f := 110) (args := #[.pointer (some ⟨w.heap.size, 0, none⟩)]) (by simp) (by simp [go_sem, Tryz.call110]) ?_
  refine (Tryz.catch_panicking w.heap.size .i64 a [] w2 hb).mono ?_
  rintro e u' w'' ⟨rfl, rfl, hb2, hbo⟩
  have hd0 : w''.cell? ⟨w.heap.size, 0, none⟩ = some (.int .i64 a) := by simp [World.cell?, hb2]
  simp [Leaves, settle, results, Tryz.results57, go_sem, hd0]
  exact ⟨_, w2, hR, hbo, by simp⟩
end Go.Proofs
namespace Go.Proofs
open Go.Ce
theorem Tryz.tried_ok {lo : Nat} {g : FuncId} {fs cs : List AV} {A A' : W} {out : Out} (h : vL Tryz.prog lo g (fs ++ cs) A out A') (ht : Ab 64 (.it .i64 (.ofNat 0)) out) :
  bD Tryz.prog lo 57 [.fn (.func g) fs cs] A (.ret (match out with | .ret _ => .it .i64 (.ofNat 0) | .pan _ v => v)) A' := by
 intro β w xs hW hr
 obtain ⟨x, xs1, rfl, ⟨first, caps, rfl, h1, h2⟩, h3⟩ := hr
 simp only [AV.aF] at h3
 subst h3
 have Rm : AV.aF β (fs ++ cs) (first ++ caps) := h1.append h2
 have hto : (first ++ caps).toArray = first.toArray ++ caps.toArray := by simp
 have hcells : (w.alloc (.cells #[.int .i64 0] 64)).heap.size = w.heap.size + 1 := Array.size_push ..
 have hold : ∀ b, b < w.heap.size -> (w.alloc (.cells #[.int .i64 0] 64)).heap[b]? = w.heap[b]? := fun b hb => by
  show (w.heap.push _)[b]? = _
  rw [Array.getElem?_push, if_neg (by omega)]
 have hW1 : aL lo β A (w.alloc (.cells #[.int .i64 0] 64)) := hW.kept (by omega) hold
 obtain ⟨_, hc⟩ := h β _ _ hW1 Rm
 rw [hto] at hc
 refine .inl ⟨Tryz.call57 _ w, (Tryz.tried_calls (R := fun e w2 => ∃ β', Go lo β A (w.alloc (.cells #[.int .i64 0] 64)) β' A' w2 ∧ rG β' out e) ?_ (hc.mono fun e w2 ⟨β', hg, ho⟩ => ⟨?_, ⟨β', hg, ho⟩, ?_⟩)).mono fun e w' ⟨e2, w2, ⟨β', hg, ho⟩, ⟨b1, b2, b3, b4, b5⟩, he⟩ => ⟨β', Go.patch hW hg hcells hold rfl rfl rfl b1 b2 b3 b4 b5, ?_⟩⟩
 ·rw [<- hto]; exact (h β _ _ hW1 Rm).1
 ·rw [Go.own_block hW hg hcells]
  exact heap_alloc_new w _
 ·cases out with
  | ret v =>
   simp only [Ab] at ht
   subst ht
   obtain ⟨y, rfl, z, rfl, hz⟩ := ho
   simp only [AV.aF] at hz
   subst hz
   exact .inl rfl
  | pan t v =>
   obtain ⟨rfl, hv⟩ := ht
   obtain ⟨y, rfl, hy⟩ := ho
   cases v <;> simp only [shp, Bool.false_eq_true] at hv
   have := of_decide_eq_true hv
   subst this
   simp only [AV.Rel] at hy
   exact .inr ⟨_, by rw [hy]⟩
 ·cases out with
  | ret v =>
   obtain ⟨y, rfl, _⟩ := ho
   rcases he with ⟨_, rfl⟩ | ⟨a, h4, _⟩
   ·exact ⟨_, rfl, rfl⟩
   ·cases h4
  | pan t v =>
   obtain ⟨y, rfl, hy⟩ := ho
   rcases he with ⟨h4, _⟩ | ⟨a, h4, rfl⟩
   ·cases h4
   ·simp only [Ending.panicked.injEq, List.cons.injEq, PanicEntry.mk.injEq, Value.iface.injEq, and_true] at h4
    obtain ⟨_, rfl⟩ := h4
    exact ⟨_, rfl, hy⟩
end Go.Proofs
