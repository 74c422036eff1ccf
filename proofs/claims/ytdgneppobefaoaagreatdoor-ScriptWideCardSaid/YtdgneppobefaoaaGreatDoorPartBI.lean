/- Part of a proof over this seat: a library of my own, and what it says of this seat. No statement is proved here. -/
import Derived.Test.YtdgneppobefaoaaGreatDoorPartBC
import Derived.Test.YtdgneppobefaoaaGreatDoorPartAW
import Derived.Test.YtdgneppobefaoaaGreatDoorPartAN
import Derived.Test.YtdgneppobefaoaaGreatDoorPartBA
import Derived.Shelf.Strings.Builder1
import Derived.Shelf.Strings.Search2
import Derived.Shelf.Strings.Cut
import Derived.Lib.Bytealg
import Derived.WalkKit
import Derived.IntWalk
import Derived.OwnWalkIn
import Derived.TacticsInMore
import Derived.LoopNIn
import Derived.LoopIn
import Derived.KernelRfl
namespace Go.Proofs
open Go.Ce Go.RowKit
set_option maxRecDepth 100000 in
theorem Tryz.cut_ib (s:ByteArray) (c:Int) (w:World):Calls Tryz.prog 57 #[.string s,.int .u8 c] w fun e w'=>e=.returned (.int .i64 (Go.Lib.indexByte s.data.toList c.toNat.toUInt8))∧w'=w:=by
 go_enter Tryz.func57,Tryz.ntmps57
 go_wp2
 rw [run_callFunc_extern Tryz.func87 (by kernel_rfl) (by kernel_rfl) (by kernel_rfl) (e:=Extern.BytealgIndexByte.indexByte) (by kernel_rfl)]
 rw [Go.Lib.run_indexByteString]
 simp only [Result.andThen]
 rw [Oper.upon_value]
 go_wp2
 go_ret
 exact ⟨rfl,rfl⟩
set_option maxHeartbeats 1000000 in
set_option maxRecDepth 100000 in
theorem Tryz.cut_index (s sub:ByteArray) (hs1:sub.size=1) (w:World):Calls Tryz.prog 96 #[.string s,.string sub] w fun e w'=>e=.returned (.int .i64 (Lib.index s.data.toList sub.data.toList))∧w'=w:=by
 go_enter Tryz.func96,Tryz.ntmps96
 go_wp2_with (go_at_call 57; refine (Tryz.cut_ib _ _ _).mono ?_; rintro e w' ⟨rfl,rfl⟩)
 ·have h:(sub.toList == s.toList)=true:=by assumption
  go_ret
  refine ⟨?_,rfl⟩
  rw [show Lib.index s.data.toList sub.data.toList=0 from Lib.zero s sub (.inr h)]
  first | rfl | (push_cast; rfl) | (refine congrArg Ending.returned (congrArg (Value.int IntKind.i64) ?_); first | rfl | (push_cast; omega) | omega | simp)
 ·go_ret
  refine ⟨?_,rfl⟩
  rw [show Lib.index s.data.toList sub.data.toList=_ from Lib.one s sub hs1]
  first | rfl | (push_cast; rfl) | (refine congrArg Ending.returned (congrArg (Value.int IntKind.i64) ?_); first | rfl | (push_cast; omega) | omega | simp)
set_option maxHeartbeats 2000000 in
set_option maxRecDepth 100000 in
theorem Tryz.cut_lite (s sep:ByteArray) (hs:s.size < 4294967281) (hs1:sep.size=1) (w:World):Calls Tryz.prog 62 #[.string s,.string sep] w fun e w'=>e=.returned (.tuple #[.string ⟨(Lib.cut s.data.toList sep.data.toList).1.toArray⟩,.string ⟨(Lib.cut s.data.toList sep.data.toList).2.1.toArray⟩,.bool (Lib.cut s.data.toList sep.data.toList).2.2])∧∃ k,w'=w.drewN k:=by
 have mixed:Tryz.prog.follows .mixedOrders=true:=by kernel_rfl
 rcases Lib.indexB_cases s sep with hix | ⟨i,hix,hroom⟩
 ·obtain ⟨e1,e2,e3⟩:=Lib.cutB_miss s sep hix
  rw [e1,e2,e3]
  go_enter Tryz.func62,Tryz.ntmps62
  go_wp2_with (go_at_call 96; refine (Tryz.cut_index _ _ hs1 _).mono ?_; rintro e w' ⟨rfl,rfl⟩; rw [show Lib.index s.data.toList sep.data.toList=_ from hix])
  go_ret3
  exact ⟨rfl,0,rfl⟩
 ·obtain ⟨e1,e2,e3⟩:=Lib.cutB_hit s sep i hix
  rw [e1,e2,e3,hs1]
  have c1:(0:Int) <= ↑i:=by omega
  have c2:(↑i:Int) <= ↑s.size:=by omega
  have c3:(0:Int) <= ↑i+↑sep.size:=by omega
  have c4:(↑i+↑sep.size:Int) <= ↑s.size:=by omega
  have c5:(0:Int) <= ↑i+1:=by omega
  have c6:(↑i+1:Int) <= ↑s.size:=by omega
  have c7:IntKind.i64.wrap (↑i+1)=↑i+1:=IntWalk.i64_in _ ⟨by omega,by omega⟩
  have c8:((↑i:Int)+1).toNat=i+sep.size:=by omega
  go_enter Tryz.func62,Tryz.ntmps62
  go_wp2_with (go_at_call 96; refine (Tryz.cut_index _ _ hs1 _).mono ?_; rintro e w' ⟨rfl,rfl⟩; rw [show Lib.index s.data.toList sep.data.toList=_ from hix])
  go_region_o
  go_wp2
  go_ret3
  exact ⟨rfl,1,rfl⟩
set_option maxHeartbeats 1000000 in
theorem Tryz.cut_calls (s sep:ByteArray) (hs:s.size < 4294967281) (hs1:sep.size=1) (w:World):Calls Tryz.prog 38 #[.string s,.string sep] w fun e w'=>e=.returned (.tuple #[.string ⟨(Lib.cut s.data.toList sep.data.toList).1.toArray⟩,.string ⟨(Lib.cut s.data.toList sep.data.toList).2.1.toArray⟩,.bool (Lib.cut s.data.toList sep.data.toList).2.2])∧∃ k,w'=w.drewN k:=by
 go_enter Tryz.func38,Tryz.ntmps38
 go_wp2_with (go_at_call 62; refine (Tryz.cut_lite _ _ hs hs1 _).mono ?_; rintro e w' ⟨rfl,n,rfl⟩)
 go_ret3
 exact ⟨rfl,n,rfl⟩
end Go.Proofs
namespace Go.Dec
open Go.Proofs Go.RowKit
attribute [local go_sem] Oper.semAt_some
def zQq (x:Line):Array Value:=#[.agg #[.string ⟨x.1.toArray⟩,.bool x.2.1]]
def zCz (b:Nat) (W:World):Nat :=
 match W.cell? ⟨b,0,none⟩ with
 | some (.string s)=>s.size
 | _=>0
theorem Yd {b:Nat} {W:World} {s:ByteArray} (h:W.cell? ⟨b,0,none⟩=some (.string s)):zCz b W=s.size:=by simp [zCz,h]
def BxS (b1:Nat) (W:World):Prop:=∃ u,Boxed W b1 9 u
set_option maxRecDepth 100000 in
set_option maxHeartbeats 1000000 in
theorem zDa (n b1:Nat) (s:List UInt8) (w:World) (h1:1 <= n) (hs:s.length < 4294967281) (rQ:Boxed w b1 9 (.string ⟨s.toArray⟩)) (Kb:Nat->Prop) (hK1:Kb b1):zFk Fence.wide n Tryz.prog 37 #[.pointer (some ⟨b1,0,none⟩)] zQq (dW s) b1 Kb (BxS b1) w:=by
 intro l J W hW hT hY h0
 have f44:Fence.wide.fn 38:=trivial
 refine callsIn_of_wp Tryz.func37 rfl trivial ?_ rfl
 simp only [Tryz.ntmps37,List.size_toArray,List.length_cons,List.length_nil,Nat.reduceAdd,Nat.reduceSub,Array.replicate_succ,Array.replicate_zero,List.push_toArray,List.append_toArray,List.nil_append,List.cons_append]
 gi_wp2
 gi_loopw [] (fun wr=>∃ (pre:List Line) (rest:List UInt8),dW s=pre++dW rest∧rest.length <= s.length∧Boxed wr b1 9 (.string ⟨rest.toArray⟩)∧J pre wr)
  (fun wr=>zCz b1 wr)
 case atStart =>
  exact ⟨[],s,rfl,aI _,(hW b1 hK1).trans rQ,h0⟩
 case round =>
  obtain ⟨pre,rest,hx,hl,hb,hJ⟩:=hrel
  have hbc:=hb.cell
  by_cases he:rest=[]
  ·subst he
   gi_wp2
   go_end0
   refine ⟨⟨_,rfl⟩,?_⟩
   rw [hx]
   simpa [zIp] using hJ
  ·have hE:rest.isEmpty=false:=by simpa using he
   have hC:CallsIn Fence.wide (n - 1) Tryz.prog 38 #[.string ⟨rest.toArray⟩,.string ⟨#[10]⟩] wr fun e w'=>e=.returned (.tuple #[.string ⟨(dR rest).1.toArray⟩,.string ⟨(dR rest).2.1.toArray⟩,.bool (dR rest).2.2])∧∃ k,w'=wr.drewN k:=by
    have:=(callsIn_wide (n:=n - 1)).2 (Tryz.cut_calls ⟨rest.toArray⟩ ⟨#[10]⟩ (by simp [ByteArray.size]; omega) rfl wr)
    simpa [zMg] using this
   gi_wp2_with (gi_at_call 38; refine hC.mono ?_; rintro e w' ⟨rfl,k,rfl⟩)
   ·have hT1:J pre (wr.drewN k):=hT _ _ _ hJ ⟨⟨_,hb⟩,rfl,rfl,rfl,aI _,fun _ _ _=>rfl⟩
    have hY1:YieldAt Fence.wide (n - 1) Tryz.prog l #[.agg #[.string ⟨(dR rest).1.toArray⟩,.bool (dR rest).2.2]] (wr.drewN k) fun e W'=>e=.returned (.bool true)∧J (pre++[((dR rest).1,(dR rest).2.2,())]) W'∧∀ k',Kb k'->W'.heap[k']?=(wr.drewN k).heap[k']? :=
     hY pre ((dR rest).1,(dR rest).2.2,()) (wr.drewN k) hT1 (by rw [hx,Rt he]; simp)
    obtain ⟨fn,tmps,assign,body,hy,hR⟩:=hY1
    gi_wp2
    rw [hy]
    gi_wp2
    refine hR.mono ?_
    rintro e W3 ⟨rfl,hJ3,hk3⟩
    have hb3:Boxed W3 b1 9 (.string ⟨rest.toArray⟩):=(hk3 b1 hK1).trans hb
    have yAh:=hb3.cell
    have yAi:=hb3.frozen
    gi_wp2
    go_roundw
    case rel =>
     have g1:=grownBy_setCell' W3 b1 (.string ⟨(dR rest).2.1.toArray⟩)
     exact ⟨pre++[((dR rest).1,(dR rest).2.2,())],(dR rest).2.1,by rw [hx,Rt he]; simp,by have:=Nk he; omega,hb3.set _,hT _ _ _ hJ3 ⟨⟨_,hb3.set _⟩,g1.os,g1.tape,g1.output,g1.size,fun j hj hne=>g1.block j hj (fun e=>hne (by cases e; rfl))⟩⟩
    case measure =>
     rw [Yd (hb3.set _).cell,Yd hbc]
     simpa [ByteArray.size] using Nk he
def rowCells (l:List Line):List Value:=l.flatMap fun x=>[.string ⟨x.1.toArray⟩,.bool x.2.1]
theorem zDb (l:List Line) (x:Line):rowCells (l++[x])=rowCells l++[.string ⟨x.1.toArray⟩,.bool x.2.1]:=by simp [rowCells]
theorem zQr:(Tryz.prog.info? 28).map (fun i=>(i.zero,i.size,i.bytes))=some (some (.agg #[.string ⟨#[]⟩,.bool false]),2,24):=by kernel_rfl
set_option maxHeartbeats 1000000 in
theorem zQs (n:Nat) (s:ByteArray) (w:World) :
  CallsIn Fence.wide n Tryz.prog 20 #[.string s] w fun e w'=>e=.returned (.func (.func 37) #[] #[.pointer (some ⟨w.heap.size,0,none⟩)])∧w'=w.alloc (.cells #[.string s] 9):=by
 refine callsIn_of_wp Tryz.func20 rfl trivial ?_ rfl
 simp only [Tryz.ntmps20,List.size_toArray,List.length_cons,List.length_nil,Nat.reduceAdd,Nat.reduceSub,Array.replicate_succ,Array.replicate_zero,List.push_toArray,List.append_toArray,List.nil_append,List.cons_append]
 gi_wp2
 go_ret
 exact ⟨rfl,rfl⟩
theorem zKh (s:List UInt8):(dW s).length <= s.length+1:=Ey s []
theorem cell_two_new (W:World) (a b:Value) (t:TypeId):∀ j u,[a,b][j]?=some u->(W.alloc (.cells #[a,b] t)).cell? (Addr.add ⟨W.heap.size,0,none⟩ j)=some u:=by
 intro j u hj
 have h:=World.alloc_heap_new W (.cells #[a,b] t)
 have e:∀ i,(W.alloc (.cells #[a,b] t)).cell? ⟨W.heap.size,i,none⟩=#[a,b][i]?:=fun i=>by unfold World.cell?; rw [h]; rfl
 match j with
 | 0=>exact (e 0).trans (by simpa using hj)
 | 1=>exact (e 1).trans (by simpa using hj)
 | j+2=>simp at hj
structure zDc (w:World) (pre:List Line) (W:World):Prop where
 os:W.os=w.os
 tape:W.tape=w.tape
 output:W.output=w.output
 below:Below w.heap.size w W
 box:BxS (w.heap.size+1) W
 row:∃ v,Boxed W w.heap.size 22 v∧W.ownsRow w.heap.size 28 2 v pre.length (rowCells pre)∧(pre=[]->v=.slice none 0 0)
theorem zDc.kept {w:World} {pre:List Line} {A B:World} {row:Option Nat} (h:zDc w pre A) (hg:A.grownBy B row)
  (hr:∀ r,row=some r->(r=w.heap.size+1∧BxS (w.heap.size+1) B)∨(w.heap.size+2 <= r∧∃ o:Obj,A.heap[r]?=some o∧o.isCells=false)):zDc w pre B:=by
 obtain ⟨u,hu⟩:=h.box
 obtain ⟨v,hv,hrow,hnl⟩:=h.row
 have hnb:∀ {b:Nat} {cs:Array Value} {t:TypeId},A.heap[b]?=some (.cells cs t (0,0))->b ≠ w.heap.size+1->some b ≠ row:=by
  intro b cs t hb hne e
  rcases hr b e.symm with ⟨h1,_⟩ | ⟨_,o,ho,hc⟩
  ·exact hne h1
  ·rw [hb] at ho; cases ho; cases hc
 refine ⟨hg.os.trans h.os,hg.tape.trans h.tape,hg.output.trans h.output,?_,?_,v,hv.kept hg (hnb hv (by omega)),hrow.kept hg ?_,hnl⟩
 ·refine h.below.grown hg h.below.size fun j ej=>?_
  rcases hr j ej with ⟨h1,_⟩ | ⟨h1,_⟩ <;> omega
 ·by_cases e:row=some (w.heap.size+1)
  ·rcases hr _ e with ⟨_,h2⟩ | ⟨h1,_⟩
   ·exact h2
   ·omega
  ·exact ⟨u,hu.kept hg (fun h=>e h.symm)⟩
 ·rcases hrow.2 with ⟨rfl,_⟩ | ⟨g,cap,cur,rfl,_,hgb,_⟩
  ·exact .inl rfl
  ·refine .inr fun e'=>?_
   have e2:some g=row:=by simpa [Value.ownBlock] using e'
   by_cases hgn:g=w.heap.size+1
   ·subst hgn
    have:=(show A.heap[w.heap.size+1]?=_ from hu).symm.trans hgb
    simp at this
   ·exact hnb hgb hgn e2
set_option maxRecDepth 100000 in
set_option maxHeartbeats 2000000 in
theorem split_in (s:List UInt8) (w:World) (hs:s.length < 4294967281) :
  CallsIn Fence.wide 5 Tryz.prog 9 #[.string ⟨s.toArray⟩] w fun e W'=>∃ v,e=.returned v∧W'.os=w.os∧W'.tape=w.tape∧W'.output=w.output∧W'.ownsRow w.heap.size 28 2 v (dW s).length (rowCells (dW s))∧Below w.heap.size w W'∧(dW s=[]->v=.slice none 0 0):=by
 have f45:Fence.wide.fn 20:=trivial
 obtain ⟨i0,hi,hz0,hz1,hz2⟩:=info_parts zQr
 refine callsIn_of_wp_marks Tryz.func9 rfl trivial ?_ rfl
 simp only [Tryz.ntmps9,List.size_toArray,List.length_cons,List.length_nil,Nat.reduceAdd,Nat.reduceSub,Array.replicate_succ,Array.replicate_zero,List.push_toArray,List.append_toArray,List.nil_append,List.cons_append]
 gi_wp2_with (gi_at_call 20; refine (zQs _ _ _).mono ?_; rintro e w' ⟨rfl,rfl⟩)
 have bO:=Boxed.new w 22 (.slice none 0 0)
 have bN:=Boxed.new (w.alloc (.cells #[.slice none 0 0] 22)) 9 (.string ⟨s.toArray⟩)
 rw [World.size_alloc] at bN
 have hB0:Below w.heap.size w ((w.alloc (.cells #[.slice none 0 0] 22)).alloc (.cells #[.string ⟨s.toArray⟩] 9)):=((Below.refl _ w).alloc (aI _) _).alloc (by simp) _
 refine Ru rfl (by omega) (gf:=37) (lb:=#[.pointer (some ⟨w.heap.size+1,0,none⟩)]) rfl trivial (enters_of Tryz.func37 (by kernel_rfl) rfl)
  (encs:=zQq) (xs:=dW s) (b1:=w.heap.size+1) (Kb:=fun k=>k < w.heap.size∨k=w.heap.size+1) (Bx:=BxS (w.heap.size+1)) (by intro k hk; simp; omega) (.inr rfl)
  (zDa _ _ s _ (by omega) hs bN _ (.inr rfl)) (fun _=>rfl)
  (zDc w)
  (fun pre x a1 W=>zDc w pre W∧∃ g,W.heap[g]?=some (.cells #[.string ⟨x.1.toArray⟩,.bool x.2.1] 28 (0,0))∧a1={ tmps:=#[.string ⟨s.toArray⟩,undef,.pointer (some ⟨w.heap.size,0,none⟩),.pointer (some ⟨g,0,none⟩),.string ⟨s.toArray⟩,.func (.func 37) #[] #[.pointer (some ⟨w.heap.size+1,0,none⟩)],.agg #[.string ⟨x.1.toArray⟩,.bool x.2.1],undef,undef,undef,undef,undef],defers:=[] })
  ?hI ?hI2 ?h0 ?assign ?body ?done
 case hI =>
  intro pre A B row h hg hr
  exact h.kept hg (fun r e=>by simpa using hr r e)
 case hI2 =>
  rintro pre x c A B row ⟨h,g,hgc,rfl⟩ hg hr
  have hr':∀ r,row=some r->w.heap.size+2 <= r∧∃ o:Obj,A.heap[r]?=some o∧o.isCells=false:=fun r e=>by simpa using hr r e
  refine ⟨h.kept hg (fun r e=>.inr (hr' r e)),g,(hg.block g (Array.getElem?_eq_some_iff.1 hgc).1 fun e=>?_).trans hgc,rfl⟩
  obtain ⟨_,o,ho,hc⟩:=hr' g e.symm
  rw [hgc] at ho; cases ho; cases hc
 case h0=>exact ⟨rfl,rfl,rfl,hB0,⟨_,bN⟩,_,bO.alloc _,World.ownsRow_nil _ _ _ _,fun _=>rfl⟩
 case assign =>
  intro l pre x W h hsz
  simp only [zQq]
  gi_wp2
  have hsz':w.heap.size+2 <= W.heap.size:=by simpa using hsz
  refine ⟨⟨h.kept (World.grownBy_alloc W _ none) (fun r e=>by cases e),W.heap.size,World.alloc_heap_new W _,rfl⟩,fun k o _ hk _=>(Below.heap_alloc _ _ _ (Array.getElem?_eq_some_iff.1 hk).1).trans hk,fun k hk=>Below.heap_alloc _ _ _ (by omega)⟩
 case body =>
  rintro l pre x a1 W ⟨h,g,hgc,rfl⟩ hlt
  obtain ⟨v,hv,hrow,hnl⟩:=h.row
  have hc:=hv.cell
  have hc0:W.cell? ⟨g,0,none⟩=some (.string ⟨x.1.toArray⟩):=by simp [World.cell?,hgc]
  have hc1:W.cell? ⟨g,1,none⟩=some (.bool x.2.1):=by simp [World.cell?,hgc]
  have hpl:=zKh s
  have hm1:pre.length+1 <= maxLen:=by unfold maxLen; omega
  have hm2:(pre.length+1) * 24 <= 140737488355328:=by omega
  have hm3:∀ o,w.heap.size <= (W.alloc o).heap.size:=fun o=>by have:=h.below.size; simp; omega
  gi_wp2_with (gi_at_builtin; refine wpListIn_append_own _ rfl _ _ 22 rfl w.heap.size 28 i0 _ 2 24 Tryz.underlying22 hi hz0 hz1 hz2 rfl (by decide) _ _ _ rfl (hrow.alloc _) ⟨W.heap.size,0,none⟩ 1 1 [.string ⟨x.1.toArray⟩,.bool x.2.1] rfl rfl (cell_two_new _ _ _ _) (by simp [Value.oneCell']) hm1 hm2 (hm3 _) ?_; intro v' w1 hown' hgrow _; obtain ⟨g',cap',rfl⟩:=ownsRow_succ hown'; obtain ⟨hv1,hv2,hr2,hk2,hb2⟩:=hv.appended (by decide) hrow h.below.size (aI _) hown' hgrow; have hc1:=hv1.cell; have hf1:=hv1.frozen)
  obtain ⟨u,hu⟩:=h.box
  have hu1:Boxed w1 (w.heap.size+1) 9 u:=(hu.alloc _).kept hgrow (hu.not_row (by decide) hrow)
  have hu2:(w1.setCell ⟨w.heap.size,0,none⟩ (.slice (some ⟨g',0,none⟩) (pre.length+1) cap')).heap[w.heap.size+1]?=W.heap[w.heap.size+1]?:=(Below.heap_setCell _ _ _ _ (by simp)).trans (hu1.trans hu.symm)
  refine ⟨fun k o _=>hk2.same k o,?_,hgrow.os.trans h.os,hgrow.tape.trans h.tape,hgrow.output.trans h.output,h.below.trans hb2,⟨u,hu2.trans hu⟩,_,hv2,?_,fun h=>by simp at h⟩
  ·rintro k (hk | rfl)
   ·exact hb2.block k hk
   ·exact hu2
  ·rw [zDb]
   simpa using hr2
 case done =>
  intro D W hD h hK
  obtain ⟨v,hv,hrow,hnl⟩:=h.row
  have hc:=hv.cell
  have hf:=hv.frozen
  obtain ⟨a,k,c,rfl⟩:∃ a k c,v=.slice a k c:=by
   rcases hrow.2 with ⟨rfl,_⟩ | ⟨g,cap,cur,rfl,_⟩
   ·exact ⟨_,_,_,rfl⟩
   ·exact ⟨_,_,_,rfl⟩
  gi_wp2
  have hD':w.heap.size+2 <= D:=by simpa using hD
  have hK':(W.setCell ⟨w.heap.size,0,none⟩ (.slice a k c)).heap[D]?=some (.deferred (some [])):=(Below.heap_setCell _ _ _ _ (by simp; omega)).trans hK
  have g1:=grownBy_setCell' W w.heap.size (.slice a k c)
  refine ⟨by simp,.inl ⟨_,_,rfl,run_takeDeferred hK',?_⟩⟩
  have g2:=grownBy_putObj' (W.setCell ⟨w.heap.size,0,none⟩ (.slice a k c)) D (.deferred none)
  have hb4:Boxed ((W.setCell ⟨w.heap.size,0,none⟩ (.slice a k c)).putObj D (.deferred none)) w.heap.size 22 (.slice a k c):=(hv.set _).kept g2 (by simp; omega)
  have zZc:=hb4.cell
  have zXv:(W.setCell ⟨w.heap.size,0,none⟩ (.slice a k c)).ownsRow w.heap.size 28 2 (.slice a k c) (dW s).length (rowCells (dW s)):=hrow.kept g1 (.inr (hv.not_row (by decide) hrow).symm)
  refine ⟨.slice a k c,?_,.slice a k c,rfl,g2.os.trans (g1.os.trans h.os),g2.tape.trans (g1.tape.trans h.tape),g2.output.trans (g1.output.trans h.output),ownsRow_putObj zXv _ hK' rfl,
   (h.below.grown g1 h.below.size (fun j e=>by cases e; exact aI _)).grown g2 (by have:=h.below.size; have:=g1.size; omega) (fun j e=>by cases e; omega),hnl⟩
  simp [results,asAddr,loadVar,go_sem,zZc]
end Go.Dec
namespace Go.Proofs
open Go.Ce
theorem Tryz.split_ok (lo:Nat) (A:W) (args:List AV) (v:AV) (A':W) (h:Tq lo A args=some (v,A')):cZ Tryz.prog lo 9 args A (.ret v) A' :=
 zNb (fun xs w=>Tryz.call9 xs w) (e:=28) (fun s w hs=>(callsIn_wide.1 (Go.Dec.split_in s w hs)).mono fun e W' ⟨v,h1,h2,h3,h4,h5,h6,h7⟩=>⟨v,h1,h2,h3,h4,by simpa [Go.Dec.rowCells] using h5,h6,h7⟩) lo A args v A' h
end Go.Proofs
