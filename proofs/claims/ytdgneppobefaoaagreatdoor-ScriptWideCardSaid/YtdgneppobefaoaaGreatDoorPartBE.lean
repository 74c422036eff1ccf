/- Part of a proof over this seat: a library of my own, and what it says of this seat. No statement is proved here. -/
import Derived.Test.YtdgneppobefaoaaGreatDoorPartBC
import Derived.Test.YtdgneppobefaoaaGreatDoorPartAV
import Derived.WalkKit
import Derived.WalkSmall
import Derived.Defers
import Derived.Recover
import Derived.Laws.Pointers
import Derived.RangeFuncRecord
namespace Go.Proofs
open Go.Ce Go.RowKit
theorem lH {w:World} {b i:Nat} {cs:Array Value} {t:TypeId} {f:Nat × Nat} {v:Value} (h:w.heap[b]?=some (.cells cs t f)):(w.setCell ⟨b,i,none⟩ v).heap[b]?=some (.cells (cs.setIfInBounds i v) t f):=by
 unfold World.setCell
 rw [Array.getElem?_modify,if_pos rfl,h]
 rfl
theorem kM {w:World} {b i k:Nat} {v:Value} (h:k ≠ b):(w.setCell ⟨b,i,none⟩ v).heap[k]?=w.heap[k]?:=by
 unfold World.setCell
 rw [Array.getElem?_modify,if_neg (fun e=>h e.symm)]
def wV (b:Nat) (w w':World):Prop:=w.heap.size <= w'.heap.size∧(∀ k,k < w.heap.size->k ≠ b->w'.heap[k]?=w.heap[k]?)∧w'.os=w.os∧w'.tape=w.tape∧w'.output=w.output
theorem Tryz.catch_idle (p:Addr) (w:World) :
  CallsD Tryz.prog 45 #[.pointer (some p)] .returning w fun e u' w'=>e=.returned (.tuple #[])∧u'=.returning∧w'=w:=by
 refine callsD_of_wpS Tryz.func45 rfl fun c₀ cs hu=>?_
 apply wpS_seq
 apply wpS_region
 simp [wpOpsS,go_sem,recoverD,hu,Tryz.ntmps45,Exit.thenS]
 have e:∀ (x y:Value),(#[x]++(Array.replicate 10 undef).setIfInBounds 3 y:Array Value)=#[x,undef,undef,undef,y,undef,undef,undef,undef,undef,undef]:=fun _ _=>rfl
 rw [e]
 refine wpS_of_wp ?_
 go_wp2
 cases c₀
 simp_all [bodyPostS,results,Tryz.results45]
set_option maxRecDepth 100000 in
theorem Tryz.catch_panicking (pb:Nat) (k:IntKind) (a:Int) (older:List PanicEntry) (w:World) (hc:w.heap[pb]?=some (.cells #[.int .i64 0] 36 (0,0))) :
  CallsD Tryz.prog 45 #[.pointer (some ⟨pb,0,none⟩)] (.panicking ({ v:=.iface 36 (.int .i64 a),recovered:=false } :: older)) w fun e u' w' =>
   e=.returned (.tuple #[])∧u'=.panicking ({ v:=.iface 36 (.int .i64 a),recovered:=true } :: older)∧w'.heap[pb]?=some (.cells #[.int .i64 a] 36 (0,0))∧wV pb w w':=by
 refine callsD_of_wpS Tryz.func45 rfl fun c₀ cs hu=>?_
 apply wpS_seq
 apply wpS_region
 simp [wpOpsS,go_sem,recoverD,hu,Tryz.ntmps45,Exit.thenS]
 have e:∀ (x y:Value),(#[x]++(Array.replicate 10 undef).setIfInBounds 3 y:Array Value)=#[x,undef,undef,undef,y,undef,undef,undef,undef,undef,undef]:=fun _ _=>rfl
 rw [e]
 refine wpS_of_wp ?_
 have hta:∀ (v:Value) (w:World),(Instr.typeAssert (.iface 36 v) 20 36 true).run Tryz.prog w=.ok (.tuple #[v,.bool true]) w:=fun _ _=>by kernel_rfl
 have hlt:pb < w.heap.size:=(Array.getElem?_eq_some_iff.1 hc).1
 have hc0:w.cell? ⟨pb,0,none⟩=some (.int .i64 0):=by simp [World.cell?,hc]
 have hz0:w.frozen? ⟨pb,0,none⟩=false:=by simp [World.frozen?,hc]
 go_wp2
 have hs1:=lH (i:=0) (v:=.int .i64 a) hc
 have hs3:∀ k,k ≠ pb->(w.setCell ⟨pb,0,none⟩ (.int .i64 a)).heap[k]?=w.heap[k]?:=fun k hk=>kM hk
 have hs4:(w.setCell ⟨pb,0,none⟩ (.int .i64 a)).heap.size=w.heap.size:=by simp
 have hs5:(w.setCell ⟨pb,0,none⟩ (.int .i64 a)).heap[pb]?=some (.cells #[.int .i64 a] 36 (0,0)):=hs1
 have hb:wV pb w (w.setCell ⟨pb,0,none⟩ (.int .i64 a)):=⟨Nat.le_of_eq hs4.symm,fun k _ hk=>hs3 k hk,rfl,rfl,rfl⟩
 clear hs1 hs3 hs4 hc0 hz0 hta
 generalize w.setCell ⟨pb,0,none⟩ (.int .i64 a)=W at *
 cases c₀
 simp [bodyPostS,results,Tryz.results45,hs5,hb,go_sem]
theorem Tryz.tried_calls {g:FuncId} {first caps:Array Value} {w:World} (eg:(callFunc g (first++caps)).run Tryz.prog (w.alloc (.cells #[.int .i64 0] 36))=.ok (.enter g (first++caps)) (w.alloc (.cells #[.int .i64 0] 36))) {R:Ending->World->Prop}
  (hg:Calls Tryz.prog g (first++caps) (w.alloc (.cells #[.int .i64 0] 36)) fun e w2=>w2.heap[w.heap.size]?=some (.cells #[.int .i64 0] 36 (0,0))∧R e w2∧(e=.returned (.tuple #[])∨∃ a,e=.panicked [{ v:=.iface 36 (.int .i64 a),recovered:=false }])) :
  Calls Tryz.prog 23 #[.func (.func g) first caps] w fun e w'=>∃ e2 w2,R e2 w2∧wV w.heap.size w2 w'∧((e2=.returned (.tuple #[])∧e=.returned (.int .i64 0))∨∃ a,e2=.panicked [{ v:=.iface 36 (.int .i64 a),recovered:=false }]∧e=.returned (.int .i64 a)):=by
 have hmf:∀ (fn:Fn) (first cap:Array Value) (w:World),(Instr.makeFunc fn first cap).run Tryz.prog w=.ok (.func fn first cap) w:=fun _ _ _ _=>rfl
 go_enter_defers Tryz.func23,Tryz.ntmps23
 go_wp2
 refine hg.mono ?_
 rintro e w2 ⟨hb,hR,(rfl | ⟨a,rfl⟩)⟩
 ·have hlt:w.heap.size < w2.heap.size:=(Array.getElem?_eq_some_iff.1 hb).1
  have hc0:w2.cell? ⟨w.heap.size,0,none⟩=some (.int .i64 0):=by simp [World.cell?,hb]
  have hz0:w2.frozen? ⟨w.heap.size,0,none⟩=false:=by simp [World.frozen?,hb]
  have hs1:=lH (i:=0) (v:=.int .i64 0) hb
  have hs3:∀ k,k ≠ w.heap.size->(w2.setCell ⟨w.heap.size,0,none⟩ (.int .i64 0)).heap[k]?=w2.heap[k]?:=fun k hk=>kM hk
  have hs4:(w2.setCell ⟨w.heap.size,0,none⟩ (.int .i64 0)).heap.size=w2.heap.size:=by simp
  have hbo:wV w.heap.size w2 (w2.setCell ⟨w.heap.size,0,none⟩ (.int .i64 0)):=⟨Nat.le_of_eq hs4.symm,fun k _ hk=>hs3 k hk,rfl,rfl,rfl⟩
  go_wp2
  clear hs3 hs4 hc0 hz0
  generalize w2.setCell ⟨w.heap.size,0,none⟩ (.int .i64 0)=W at *
  have hd0:W.cell? ⟨w.heap.size,0,none⟩=some (.int .i64 0):=by simp [World.cell?,hs1]
  refine leaves_cons (f:=45) (args:=#[.pointer (some ⟨w.heap.size,0,none⟩)]) (by simp) (by simp [go_sem,Tryz.call45]) ?_
  refine (Tryz.catch_idle ⟨w.heap.size,0,none⟩ _).mono ?_
  rintro e u' w'' ⟨rfl,rfl,rfl⟩
  simp [Leaves,settle,results,Tryz.results23,go_sem,hd0]
  exact ⟨_,w2,hR,hbo,by simp⟩
 ·refine leaves_cons (f:=45) (args:=#[.pointer (some ⟨w.heap.size,0,none⟩)]) (by simp) (by simp [go_sem,Tryz.call45]) ?_
  refine (Tryz.catch_panicking w.heap.size .i64 a [] w2 hb).mono ?_
  rintro e u' w'' ⟨rfl,rfl,hb2,hbo⟩
  have hd0:w''.cell? ⟨w.heap.size,0,none⟩=some (.int .i64 a):=by simp [World.cell?,hb2]
  simp [Leaves,settle,results,Tryz.results23,go_sem,hd0]
  exact ⟨_,w2,hR,hbo,by simp⟩
end Go.Proofs
namespace Go.Proofs
open Go.Ce
theorem Tryz.tried_ok {lo:Nat} {g:FuncId} {fs cs:List AV} {A A':W} {out:Out} (h:Dt Tryz.prog lo g (fs++cs) A out A') (ht:Kg 36 (.it .i64 (.ofNat 0)) out) :
  cZ Tryz.prog lo 23 [.fn (.func g) fs cs] A (.ret (match out with | .ret _=>.it .i64 (.ofNat 0) | .pan _ v=>v)) A':=by
 intro β w xs hW hr
 obtain ⟨x,xs1,rfl,⟨first,caps,rfl,h1,h2⟩,h3⟩:=hr
 simp only [AV.aN] at h3
 subst h3
 have zCy:AV.aN β (fs++cs) (first++caps):=h1.append h2
 have hto:(first++caps).toArray=first.toArray++caps.toArray:=by simp
 have hcells:(w.alloc (.cells #[.int .i64 0] 36)).heap.size=w.heap.size+1:=Array.size_push ..
 have hold:∀ b,b < w.heap.size->(w.alloc (.cells #[.int .i64 0] 36)).heap[b]?=w.heap[b]?:=fun b hb=>by
  show (w.heap.push _)[b]?=_
  rw [Array.getElem?_push,if_neg (by omega)]
 have hW1:aX lo β A (w.alloc (.cells #[.int .i64 0] 36)):=hW.kept (by omega) hold
 obtain ⟨_,hc⟩:=h β _ _ hW1 zCy
 rw [hto] at hc
 refine .inl ⟨Tryz.call23 _ w,(Tryz.tried_calls (R:=fun e w2=>∃ β',Go lo β A (w.alloc (.cells #[.int .i64 0] 36)) β' A' w2∧zO β' out e) ?_ (hc.mono fun e w2 ⟨β',hg,ho⟩=>⟨?_,⟨β',hg,ho⟩,?_⟩)).mono fun e w' ⟨e2,w2,⟨β',hg,ho⟩,⟨b1,b2,b3,b4,b5⟩,he⟩=>⟨β',Go.patch hW hg hcells hold rfl rfl rfl b1 b2 b3 b4 b5,?_⟩⟩
 ·rw [<- hto]; exact (h β _ _ hW1 zCy).1
 ·rw [Go.own_block hW hg hcells]
  exact heap_alloc_new w _
 ·cases out with
  | ret v =>
   simp only [Kg] at ht
   subst ht
   obtain ⟨y,rfl,z,rfl,hz⟩:=ho
   simp only [AV.aN] at hz
   subst hz
   exact .inl rfl
  | pan t v =>
   obtain ⟨rfl,hv⟩:=ht
   obtain ⟨y,rfl,hy⟩:=ho
   cases v <;> simp only [shp,Bool.false_eq_true] at hv
   have:=of_decide_eq_true hv
   subst this
   simp only [AV.Rel] at hy
   exact .inr ⟨_,by rw [hy]⟩
 ·cases out with
  | ret v =>
   obtain ⟨y,rfl,_⟩:=ho
   rcases he with ⟨_,rfl⟩ | ⟨a,h4,_⟩
   ·exact ⟨_,rfl,rfl⟩
   ·cases h4
  | pan t v =>
   obtain ⟨y,rfl,hy⟩:=ho
   rcases he with ⟨h4,_⟩ | ⟨a,h4,rfl⟩
   ·cases h4
   ·simp only [Ending.panicked.injEq,aK,PanicEntry.mk.injEq,Value.iface.injEq,and_true] at h4
    obtain ⟨_,rfl⟩:=h4
    exact ⟨_,rfl,hy⟩
end Go.Proofs
namespace Go.Proofs
open Go.Ce Go.RowKit
theorem Tryz.bcatch_idle (p:Addr) (w:World) :
  CallsD Tryz.prog 270 #[.pointer (some p)] .returning w fun e u' w'=>e=.returned (.tuple #[])∧u'=.returning∧w'=w:=by
 refine callsD_of_wpS Tryz.func270 rfl fun c₀ cs hu=>?_
 apply wpS_seq
 apply wpS_region
 simp [wpOpsS,go_sem,recoverD,hu,Tryz.ntmps270,Exit.thenS]
 have e:∀ (x y:Value),(#[x]++(Array.replicate 10 undef).setIfInBounds 3 y:Array Value)=#[x,undef,undef,undef,y,undef,undef,undef,undef,undef,undef]:=fun _ _=>rfl
 rw [e]
 refine wpS_of_wp ?_
 go_wp2
 cases c₀
 simp_all [bodyPostS,results,Tryz.results270]
set_option maxRecDepth 100000 in
theorem Tryz.bcatch_panicking (pb:Nat) (a b:Int) (older:List PanicEntry) (w:World) (hc:w.heap[pb]?=some (.cells #[.int .i64 0,.int .i64 0] 295 (0,0))) :
  CallsD Tryz.prog 270 #[.pointer (some ⟨pb,0,none⟩)] (.panicking ({ v:=.iface 295 (.agg #[.int .i64 a,.int .i64 b]),recovered:=false } :: older)) w fun e u' w' =>
   e=.returned (.tuple #[])∧u'=.panicking ({ v:=.iface 295 (.agg #[.int .i64 a,.int .i64 b]),recovered:=true } :: older)∧w'.heap[pb]?=some (.cells #[.int .i64 a,.int .i64 b] 295 (0,0))∧wV pb w w':=by
 refine callsD_of_wpS Tryz.func270 rfl fun c₀ cs hu=>?_
 apply wpS_seq
 apply wpS_region
 simp [wpOpsS,go_sem,recoverD,hu,Tryz.ntmps270,Exit.thenS]
 have e:∀ (x y:Value),(#[x]++(Array.replicate 10 undef).setIfInBounds 3 y:Array Value)=#[x,undef,undef,undef,y,undef,undef,undef,undef,undef,undef]:=fun _ _=>rfl
 rw [e]
 refine wpS_of_wp ?_
 have hta:∀ (v:Value) (w:World),(Instr.typeAssert (.iface 295 v) 20 295 true).run Tryz.prog w=.ok (.tuple #[v,.bool true]) w:=fun _ _=>by kernel_rfl
 have hlt:pb < w.heap.size:=(Array.getElem?_eq_some_iff.1 hc).1
 have hc0:w.cell? ⟨pb,0,none⟩=some (.int .i64 0):=by simp [World.cell?,hc]
 have hc1:w.cell? ⟨pb,1,none⟩=some (.int .i64 0):=by simp [World.cell?,hc]
 have hz0:w.frozen? ⟨pb,0,none⟩=false:=by simp [World.frozen?,hc]
 have hz1:w.frozen? ⟨pb,1,none⟩=false:=by simp [World.frozen?,hc]
 go_wp2
 have hs1:=lH (i:=0) (v:=.int .i64 a) hc
 have hs2:=lH (i:=1) (v:=.int .i64 b) hs1
 have hs3:∀ k,k ≠ pb->((w.setCell ⟨pb,0,none⟩ (.int .i64 a)).setCell ⟨pb,1,none⟩ (.int .i64 b)).heap[k]?=w.heap[k]?:=fun k hk=>(kM hk).trans (kM hk)
 have hs4:((w.setCell ⟨pb,0,none⟩ (.int .i64 a)).setCell ⟨pb,1,none⟩ (.int .i64 b)).heap.size=w.heap.size:=by simp
 have hb:wV pb w (((w.setCell ⟨pb,0,none⟩ (.int .i64 a)).setCell ⟨pb,1,none⟩ (.int .i64 b)).alloc (.cells #[.int .i64 a,.int .i64 b] 295)) :=
  ⟨by show _ <= (((w.setCell ⟨pb,0,none⟩ (.int .i64 a)).setCell ⟨pb,1,none⟩ (.int .i64 b)).heap.push _).size; rw [Array.size_push,hs4]; omega,fun k hk hn=>(Below.heap_alloc _ _ k (by rw [hs4]; exact hk)).trans (hs3 k hn),rfl,rfl,rfl⟩
 have hs5:(((w.setCell ⟨pb,0,none⟩ (.int .i64 a)).setCell ⟨pb,1,none⟩ (.int .i64 b)).alloc (.cells #[.int .i64 a,.int .i64 b] 295)).heap[pb]?=some (.cells #[.int .i64 a,.int .i64 b] 295 (0,0)) :=
  (Below.heap_alloc _ _ pb (by rw [hs4]; exact hlt)).trans hs2
 clear hs1 hs2 hs3 hs4 hc0 hc1 hz0 hz1 hta
 generalize (((w.setCell ⟨pb,0,none⟩ (.int .i64 a)).setCell ⟨pb,1,none⟩ (.int .i64 b)).alloc (.cells #[.int .i64 a,.int .i64 b] 295))=W at *
 cases c₀
 simp [bodyPostS,results,Tryz.results270,hs5,hb,go_sem]
theorem Tryz.btried_calls {g:FuncId} {first caps:Array Value} {w:World} (eg:(callFunc g (first++caps)).run Tryz.prog (w.alloc (.cells #[.int .i64 0,.int .i64 0] 295))=.ok (.enter g (first++caps)) (w.alloc (.cells #[.int .i64 0,.int .i64 0] 295))) {R:Ending->World->Prop}
  (hg:Calls Tryz.prog g (first++caps) (w.alloc (.cells #[.int .i64 0,.int .i64 0] 295)) fun e w2=>w2.heap[w.heap.size]?=some (.cells #[.int .i64 0,.int .i64 0] 295 (0,0))∧R e w2∧(e=.returned (.tuple #[])∨∃ a b,e=.panicked [{ v:=.iface 295 (.agg #[.int .i64 a,.int .i64 b]),recovered:=false }])) :
  Calls Tryz.prog 210 #[.func (.func g) first caps] w fun e w'=>∃ e2 w2,R e2 w2∧wV w.heap.size w2 w'∧((e2=.returned (.tuple #[])∧e=.returned (.agg #[.int .i64 0,.int .i64 0]))∨∃ a b,e2=.panicked [{ v:=.iface 295 (.agg #[.int .i64 a,.int .i64 b]),recovered:=false }]∧e=.returned (.agg #[.int .i64 a,.int .i64 b])):=by
 have hmf:∀ (fn:Fn) (first cap:Array Value) (w:World),(Instr.makeFunc fn first cap).run Tryz.prog w=.ok (.func fn first cap) w:=fun _ _ _ _=>rfl
 go_enter_defers Tryz.func210,Tryz.ntmps210
 go_wp2
 refine hg.mono ?_
 rintro e w2 ⟨hb,hR,(rfl | ⟨a,b,rfl⟩)⟩
 ·have hlt:w.heap.size < w2.heap.size:=(Array.getElem?_eq_some_iff.1 hb).1
  have hc0:w2.cell? ⟨w.heap.size,0,none⟩=some (.int .i64 0):=by simp [World.cell?,hb]
  have hc1:w2.cell? ⟨w.heap.size,1,none⟩=some (.int .i64 0):=by simp [World.cell?,hb]
  have hz0:w2.frozen? ⟨w.heap.size,0,none⟩=false:=by simp [World.frozen?,hb]
  have hz1:w2.frozen? ⟨w.heap.size,1,none⟩=false:=by simp [World.frozen?,hb]
  have hs1:=lH (i:=0) (v:=.int .i64 0) hb
  have hs2:=lH (i:=1) (v:=.int .i64 0) hs1
  have hs3:∀ k,k ≠ w.heap.size->((w2.setCell ⟨w.heap.size,0,none⟩ (.int .i64 0)).setCell ⟨w.heap.size,1,none⟩ (.int .i64 0)).heap[k]?=w2.heap[k]?:=fun k hk=>(kM hk).trans (kM hk)
  have hs4:((w2.setCell ⟨w.heap.size,0,none⟩ (.int .i64 0)).setCell ⟨w.heap.size,1,none⟩ (.int .i64 0)).heap.size=w2.heap.size:=by simp
  have hbo:wV w.heap.size w2 ((w2.setCell ⟨w.heap.size,0,none⟩ (.int .i64 0)).setCell ⟨w.heap.size,1,none⟩ (.int .i64 0)):=⟨Nat.le_of_eq hs4.symm,fun k _ hk=>hs3 k hk,rfl,rfl,rfl⟩
  go_wp2
  clear hs3 hs4 hc0 hc1 hz0 hz1
  generalize ((w2.setCell ⟨w.heap.size,0,none⟩ (.int .i64 0)).setCell ⟨w.heap.size,1,none⟩ (.int .i64 0))=W at *
  have hd0:W.cell? ⟨w.heap.size,0,none⟩=some (.int .i64 0):=by simp [World.cell?,hs2]
  have hd1:W.cell? ⟨w.heap.size,1,none⟩=some (.int .i64 0):=by simp [World.cell?,hs2]
  refine leaves_cons (f:=270) (args:=#[.pointer (some ⟨w.heap.size,0,none⟩)]) (by simp) (by simp [go_sem,Tryz.call270]) ?_
  refine (Tryz.bcatch_idle ⟨w.heap.size,0,none⟩ _).mono ?_
  rintro e u' w'' ⟨rfl,rfl,rfl⟩
  simp [Leaves,settle,results,Tryz.results210,go_sem,hd0,hd1]
  exact ⟨_,w2,hR,hbo,by simp⟩
 ·refine leaves_cons (f:=270) (args:=#[.pointer (some ⟨w.heap.size,0,none⟩)]) (by simp) (by simp [go_sem,Tryz.call270]) ?_
  refine (Tryz.bcatch_panicking w.heap.size a b [] w2 hb).mono ?_
  rintro e u' w'' ⟨rfl,rfl,hb2,hbo⟩
  have hd0:w''.cell? ⟨w.heap.size,0,none⟩=some (.int .i64 a):=by simp [World.cell?,hb2]
  have hd1:w''.cell? ⟨w.heap.size,1,none⟩=some (.int .i64 b):=by simp [World.cell?,hb2]
  simp [Leaves,settle,results,Tryz.results210,go_sem,hd0,hd1]
  exact ⟨_,w2,hR,hbo,by simp⟩
end Go.Proofs
namespace Go.Proofs
open Go.Ce
theorem zTn {m n:Int} {v:AV} (h:shp (.ag [.it .i64 m,.it .i64 n]) v=true):∃ a b,v=.ag [.it .i64 a,.it .i64 b]:=by
 cases v with
 | ag l =>
  simp only [shp] at h
  match l with
  | []=>simp [Oy] at h
  | x :: r =>
   simp only [Oy,aF] at h
   obtain ⟨h1,h2⟩:=h
   match r with
   | []=>simp [Oy] at h2
   | y :: s =>
    simp only [Oy,aF] at h2
    obtain ⟨h2,h3⟩:=h2
    match s with
    | _ :: _=>simp [Oy] at h3
    | [] =>
     cases x <;> simp only [shp,Bool.false_eq_true] at h1
     cases y <;> simp only [shp,Bool.false_eq_true] at h2
     have h1:=of_decide_eq_true h1
     have h2:=of_decide_eq_true h2
     subst h1 h2
     exact ⟨_,_,rfl⟩
 | _=>simp [shp] at h
theorem Tryz.btried_ok {lo:Nat} {g:FuncId} {fs cs:List AV} {A A':W} {out:Out} (h:Dt Tryz.prog lo g (fs++cs) A out A') (ht:Kg 295 (.ag [.it .i64 (.ofNat 0),.it .i64 (.ofNat 0)]) out) :
  cZ Tryz.prog lo 210 [.fn (.func g) fs cs] A (.ret (match out with | .ret _=>.ag [.it .i64 (.ofNat 0),.it .i64 (.ofNat 0)] | .pan _ v=>v)) A':=by
 intro β w xs hW hr
 obtain ⟨x,xs1,rfl,⟨first,caps,rfl,h1,h2⟩,h3⟩:=hr
 simp only [AV.aN] at h3
 subst h3
 have zCy:AV.aN β (fs++cs) (first++caps):=h1.append h2
 have hto:(first++caps).toArray=first.toArray++caps.toArray:=by simp
 have hcells:(w.alloc (.cells #[.int .i64 0,.int .i64 0] 295)).heap.size=w.heap.size+1:=Array.size_push ..
 have hold:∀ b,b < w.heap.size->(w.alloc (.cells #[.int .i64 0,.int .i64 0] 295)).heap[b]?=w.heap[b]?:=fun b hb=>by
  show (w.heap.push _)[b]?=_
  rw [Array.getElem?_push,if_neg (by omega)]
 have hW1:aX lo β A (w.alloc (.cells #[.int .i64 0,.int .i64 0] 295)):=hW.kept (by omega) hold
 obtain ⟨_,hc⟩:=h β _ _ hW1 zCy
 rw [hto] at hc
 refine .inl ⟨Tryz.call210 _ w,(Tryz.btried_calls (R:=fun e w2=>∃ β',Go lo β A (w.alloc (.cells #[.int .i64 0,.int .i64 0] 295)) β' A' w2∧zO β' out e) ?_ (hc.mono fun e w2 ⟨β',hg,ho⟩=>⟨?_,⟨β',hg,ho⟩,?_⟩)).mono fun e w' ⟨e2,w2,⟨β',hg,ho⟩,⟨b1,b2,b3,b4,b5⟩,he⟩=>⟨β',Go.patch hW hg hcells hold rfl rfl rfl b1 b2 b3 b4 b5,?_⟩⟩
 ·rw [<- hto]; exact (h β _ _ hW1 zCy).1
 ·rw [Go.own_block hW hg hcells]
  exact heap_alloc_new w _
 ·cases out with
  | ret v =>
   simp only [Kg] at ht
   subst ht
   obtain ⟨y,rfl,z,rfl,hz⟩:=ho
   simp only [AV.aN] at hz
   subst hz
   exact .inl rfl
  | pan t v =>
   obtain ⟨rfl,hv⟩:=ht
   obtain ⟨y,rfl,hy⟩:=ho
   ·obtain ⟨a,b,rfl⟩:=zTn hv
    obtain ⟨ys,rfl,y1,ys1,rfl,q1,y2,ys2,rfl,q2,q3⟩:=hy
    simp only [AV.Rel,AV.aN] at q1 q2 q3
    subst q1 q2 q3
    exact .inr ⟨_,_,rfl⟩
 ·cases out with
  | ret v =>
   obtain ⟨y,rfl,_⟩:=ho
   rcases he with ⟨_,rfl⟩ | ⟨a,b,h4,_⟩
   ·exact ⟨_,rfl,_,rfl,_,_,rfl,rfl,_,_,rfl,rfl,rfl⟩
   ·cases h4
  | pan t v =>
   obtain ⟨y,rfl,hy⟩:=ho
   rcases he with ⟨h4,_⟩ | ⟨a,b,h4,rfl⟩
   ·cases h4
   ·simp only [Ending.panicked.injEq,aK,PanicEntry.mk.injEq,Value.iface.injEq,and_true] at h4
    obtain ⟨_,rfl⟩:=h4
    exact ⟨_,rfl,hy⟩
end Go.Proofs
