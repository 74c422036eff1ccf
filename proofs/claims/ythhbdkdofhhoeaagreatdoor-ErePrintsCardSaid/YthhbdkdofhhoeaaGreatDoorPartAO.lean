/- Part of a proof over this seat: a library of my own, and what it says of this seat. No statement is proved here. -/
import Derived.RangeFuncLeaves
import Derived.RangeFuncBound
import Derived.RangeFuncCalls
import Derived.RangeFuncBox
import Derived.Test.YthhbdkdofhhoeaaGreatDoorPartAJ
namespace Go.Dec
open Go.RowKit
structure Turns (b1:Nat) (Bx:World->Prop) (A B:World):Prop where
 box:Bx B
 os:B.os=A.os
 tape:B.tape=A.tape
 output:B.output=A.output
 size:A.heap.size<=B.heap.size
 block:∀ k,k<A.heap.size->k≠b1->B.heap[k]?=A.heap[k]?
def yBl{α:Type}(F:Fence)(n:Nat)(P:Program)(gf:Nat)(lb:Array Value)(encs:α->Array Value)(xs:List α)(b1:Nat)(Kb:Nat->Prop)(Bx:World->Prop)(w:World):Prop :=
 ∀ (l:Nat) (J:List α->World->Prop) (W:World),(∀ k,Kb k->W.heap[k]?=w.heap[k]?)->(∀ s A B,J s A->Turns b1 Bx A B->J s B) ->
  (∀ pre x W1,J pre W1->pre.length<xs.length->YieldAt F (n-1) P l (encs x) W1 λe W'=>e=.returned (.bool true)/\J (pre++[x]) W'/\∀ k,Kb k->W'.heap[k]?=W1.heap[k]?) ->
  J [] W->CallsIn F n P gf (#[.func (.yield l) #[] #[]]++lb) W λe W'=>(∃ v,e=.returned v)/\J xs W'
def zVu (B:Nat) (A W:World):Prop := ∀ (k:Nat) (o:Obj),B<=k->A.heap[k]? = some o->o.isCells = false->W.heap[k]? = some o
theorem zKd{α:Type}{F:Fence}{n:Nat}{P:Program}{g:Operand}{ps:Array Tmp}{assign body:Code}{Q:Exit->Act->World->Prop}{a:Act}{w:World}(hro:F.round=none)(h1:1<=n){gf:Nat}{lb:Array Value}(hg:a.eval g=.func (.func gf) #[] lb)(hFg:F.fn gf)(eg:∀ args w,(callFunc gf args).run P w=.ok (.enter gf args) w){encs:α->Array Value}{xs:List α}{b1:Nat}{Kb:Nat->Prop}{Bx:World->Prop}(hKb:∀ k,Kb k->k<w.heap.size)(hb1:Kb b1)(yTj:yBl F (n-1) P gf lb encs xs b1 Kb Bx w)(hps:∀ x,(encs x).size=ps.size)(I:List α->World->Prop)(I2:List α->α->Act->World->Prop)(hI:∀ s A B row,I s A->A.grownBy B row->(∀ r,row=some r->(r=b1/\Bx B)\/(w.heap.size<=r/\∃ o:Obj,A.heap[r]?=some o/\o.isCells=false))->I s B)(hI2:∀ s x c A B row,I2 s x c A->A.grownBy B row->(∀ r,row=some r->w.heap.size<=r/\∃ o:Obj,A.heap[r]?=some o/\o.isCells=false)->I2 s x c B)(h0:I [] w)(hassign:∀ (l:Nat) (pre:List α) (x:α) (W:World),I pre W->w.heap.size<=W.heap.size ->
  assign.wpIn (F.inRound l) (n-1-1) P (Exit.then (λa1 W1=>I2 pre x a1 W1/\zVu w.heap.size W W1/\∀ k,Kb k->W1.heap[k]?=W.heap[k]?) (λ_ _ _=>False)) { tmps:=(ps.zip (encs x)).foldl (λt (p,v)=>t.setIfInBounds p v) a.tmps,defers:=[] } W)(hbody:∀ (l:Nat) (pre:List α) (x:α) (a1:Act) (W:World),I2 pre x a1 W->pre.length<xs.length ->
  body.wpIn (F.inRound l) (n-1-1) P (λe _ W'=>e=.normal/\zVu w.heap.size W W'/\(∀ k,Kb k->W'.heap[k]?=W.heap[k]?)/\I (pre++[x]) W') a1 W)(hdone:∀ (D:Nat) (W:World),w.heap.size<=D->I xs W->W.heap[D]?=some (.deferred (some []))->Q .normal { a with defers:={ target:=.collected D,args:=#[] }::a.defers } W):(Code.rangeFunc g ps assign body).wpIn F n P Q a w:=by
 refine wpIn_rangeFunc λfn hfn=>?_
 rw[hro]
 let rec':LoopState->Loop:=λst=>{ state:=st,pending:=none,fn,tmps:=a.tmps,params:=ps,assign,body,defers:=w.heap.size }
 let W1:World:=(w.alloc (.deferred (some []))).alloc (.loop (rec' .ready))
 let L:=w.heap.size+1
 have sz1:W1.heap.size=w.heap.size+2:=by simp[W1]
 have hL1:W1.heap[L]?=some (.loop (rec' .ready)):=by
  have:=World.alloc_heap_new (w.alloc (.deferred (some []))) (.loop (rec' .ready))
  rwa [World.size_alloc]at this
 have hD1:W1.heap[w.heap.size]?=some (.deferred (some [])):=(Below.heap_alloc _ _ _ (by simp)).trans (World.alloc_heap_new w _);have yWp:∀ k,k<w.heap.size->W1.heap[k]?=w.heap[k]?:=λk hk=>(Below.heap_alloc _ _ _ (by simp;omega)).trans (Below.heap_alloc w _ k hk)
 have g1:w.grownBy (w.alloc (.deferred (some []))) none:=⟨rfl,rfl,rfl,by simp,λk hk _=>Below.heap_alloc w _ k hk⟩;have g2:(w.alloc (.deferred (some []))).grownBy W1 none:=⟨rfl,rfl,rfl,by simp[W1],λk hk _=>Below.heap_alloc _ _ k hk⟩;have hI1:I [] W1:=hI _ _ _ none (hI _ _ _ none h0 g1 (λr e=>by cases e)) g2 (λr e=>by cases e)
 let J:List α->World->Prop:=λpre W=>I pre W/\W.heap[L]?=some (.loop (rec' .ready))/\W.heap[w.heap.size]?=some (.deferred (some []))/\w.heap.size<=W.heap.size
 have put:∀ {s:List α}{A:World}{o:Obj}(o':Obj),I s A->A.heap[L]?=some o->o.isCells=false->I s (A.putObj L o'):=λ{s A o} o' hs ho hc =>
  hI s A _ (some L) hs (grownBy_putObj' A L o') (λr e=>by cases e;exact .inr ⟨by omega,o,ho,hc⟩)
 refine⟨L,[{ target:=.collected w.heap.size,args:=#[] }],W1,{ target:=.fn (.func gf) lb,args:=#[.func (.yield L) #[] #[]] },W1,gf,#[.func (.yield L) #[] #[]]++lb,W1,run_enterLoop_outer _ _ _ _ _,?_,?_,?_,λ_=>h1,?_⟩
 ·simp only[resolve,hg];simp[go_sem]
 ·intro f' hf';simp[Target.leads]at hf';subst hf';exact hFg
 ·simp[invoke,go_sem,eg]
 ·refine(yTj L J W1 (λk hk=>yWp k (hKb k hk)) ?_ ?_ ⟨hI1,hL1,hD1,by omega⟩).mono ?_
  ·rintro s A B ⟨k1,k2,k3,k4⟩ ht;have hlt:L<A.heap.size:=(Array.getElem?_eq_some_iff.1 k2).1;exact⟨hI s A B (some b1) k1 ⟨ht.os,ht.tape,ht.output,ht.size,λk hk hne=>ht.block k hk (λe=>hne (by rw[e]))⟩ (λr e=>by cases e;exact .inl ⟨rfl,ht.box⟩),
    (ht.block _ hlt (by have:=hKb _ hb1;omega)).trans k2,(ht.block _ (by omega) (by have:=hKb _ hb1;omega)).trans k3,Nat.le_trans k4 ht.size⟩
  ·rintro pre x W ⟨k1,k2,k3,k4⟩ hlen;have hlt:L<W.heap.size:=(Array.getElem?_eq_some_iff.1 k2).1;refine⟨fn,_,assign,body,run_yield (P:=P) (args:=encs x) k2 (hps x),roundIn_of_wpIn hfn ?_⟩;refine wpIn_mono (hassign L pre x W k1 k4) ?_;intro e a1 W2 he;cases e with
   |normal =>
    obtain⟨h2,hk2,hb2⟩:=he;have hl2:W2.heap[L]?=some (.loop (rec' .ready)):=hk2 _ _ (by omega) k2 rfl;have hd2:W2.heap[w.heap.size]?=some (.deferred (some [])):=hk2 _ _ (bA _) k3 rfl;have hlt2:L<W2.heap.size:=(Array.getElem?_eq_some_iff.1 hl2).1;refine⟨W2.putObj L (.loop (rec' .busy)),run_beginRound hl2 rfl,?_⟩;have hl3:(W2.putObj L (.loop (rec' .busy))).heap[L]?=some (.loop (rec' .busy)):=World.putObj_heap_same hlt2;have hd3:(W2.putObj L (.loop (rec' .busy))).heap[w.heap.size]?=some (.deferred (some [])):=(World.putObj_heap_other (by omega)).trans hd2;have h3:I2 pre x a1 (W2.putObj L (.loop (rec' .busy))):=hI2 _ _ _ _ _ (some L) h2 (grownBy_putObj' W2 L _) (λr e=>by cases e;exact⟨by omega,_,hl2,rfl⟩);refine wpIn_mono (hbody L pre x a1 _ h3 hlen) ?_;rintro e a4 W4 ⟨rfl,hk4,hb4,h4⟩;have hl4:W4.heap[L]?=some (.loop (rec' .busy)):=hk4 _ _ (by omega) hl3 rfl;have hd4:W4.heap[w.heap.size]?=some (.deferred (some [])):=hk4 _ _ (bA _) hd3 rfl;have yZi:L<W4.heap.size:=(Array.getElem?_eq_some_iff.1 hl4).1;refine⟨_,_,run_endRound (P:=P) none hl4,rfl,⟨put _ h4 hl4 rfl,World.putObj_heap_same yZi,(World.putObj_heap_other (by omega)).trans hd4,by simp;omega⟩,?_⟩;intro k hk;have:=hKb k hk;rw[World.putObj_heap_other (by omega),hb4 k hk,World.putObj_heap_other (by omega),hb2 k hk]
   |_=>exact he.elim
  ·rintro e W2 ⟨⟨v,rfl⟩,k1,k2,k3,k4⟩;exact⟨none,_,run_endLoop (P:=P) k2 (by simp[rec']),hdone _ _ (bA _) (put _ k1 k2 rfl) ((World.putObj_heap_other (by omega)).trans k3)⟩
end Go.Dec
