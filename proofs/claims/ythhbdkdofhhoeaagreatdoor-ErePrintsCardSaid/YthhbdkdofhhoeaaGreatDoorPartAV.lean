/- Part of a proof over this seat: a library of my own, and what it says of this seat. No statement is proved here. -/
import Derived.Test.YthhbdkdofhhoeaaGreatDoorPartAU
import Derived.Test.YthhbdkdofhhoeaaGreatDoorPartAO
import Derived.Laws.Bits64b
import Derived.OwnWalkIn
import Derived.TacticsInMore
import Derived.LoopNIn
import Derived.LoopIn
namespace Go.Dec
open Go.Proofs Go.RowKit
attribute [local go_sem] Oper.semAt_some
theorem yMm{k m:Nat}(hw:2 ^ k*(2*m+1)<18446744073709551616)(w:World)(hG:Glob Tryz.prog w):Calls Tryz.prog 152 #[.int .u64 ((2 ^ k*(2*m+1):Nat):Int)] w λe w'=>e=.returned (.int .i64 k)/\w'=w:=by
 have hpos:0<2 ^ k*(2*m+1):=Nat.mul_pos (Nat.two_pow_pos k) (by omega);obtain⟨hk,_⟩:=zAh (k:=k) (m:=m) hw;obtain⟨j,h1,h2,h3⟩:=yMl k hk;have hj:tzI ((2 ^ k*(2*m+1):Nat):Int)=j:=by
  unfold tzI;have e1:IntKind.u64.wrap (-((2 ^ k*(2*m+1):Nat):Int))=((18446744073709551616-2 ^ k*(2*m+1):Nat):Int):=by
   rw[IntKind.wrap_u64];omega
  rw[e1,bits_and_u64_nat _ _ hw (by omega)];rw[show(2 ^ k*(2*m+1)) &&& (18446744073709551616-2 ^ k*(2*m+1))=2 ^ k from and_neg hw];exact h2
 have:=zKj ((2 ^ k*(2*m+1):Nat):Int) j w (by omega) hj h1 hG;rw[h3]at this;exact this
theorem GK.ok.at{k:GK}{g:Nat}{w w':World}(h:k.ok w g)(hk:w'.heap[g]?=w.heap[g]?):k.ok w' g:=by
 have cell:∀ v,w.cell? ⟨g,0,none⟩=some v->w'.cell? ⟨g,0,none⟩=some v:=λv hv=>by
  unfold World.cell? at *;rw[hk];exact hv
 cases k with
 |int k=>obtain⟨m,hm⟩:=h;exact⟨m,cell _ hm⟩
 |any=>obtain⟨v,hv,hk2⟩:=h;exact⟨v,cell _ hv,hk2⟩
 |tab k zs =>
  obtain⟨a,b,hm⟩:=h;exact⟨a,b,hk.trans hm⟩
def yEu (x:UInt8):Array Value := #[.int .u8 (x.toNat:Int)]
def BxW (b1:Nat) (ws:List Int) (W:World):Prop:=W.heap[b1]? = some (.cells (ws.map (Value.int .u64)).toArray 25 (0,0))
structure xBk (b1:Nat) (ws:List Int) (W:World):Prop where
 box:BxW b1 ws W
 tab:∃ a b,W.heap[0]?=some (.cells (qY.map (Value.int .u8)).toArray a b)
set_option maxRecDepth 100000 in
set_option maxHeartbeats 2000000 in
theorem yEv(n b1:Nat)(w0 w1 w2 w3:Int)(w:World)(h1:1<=n)(hr:∀ x∈[w0,w1,w2,w3],0<=x/\x<18446744073709551616)(hG:Glob Tryz.prog w)(kY:BxW b1 [w0,w1,w2,w3] w)(hsz:6<=b1)(Kb:Nat->Prop)(hK1:Kb b1)(hK0:∀ g,g<6->Kb g):yBl Fence.wide n Tryz.prog 151 #[.pointer (some ⟨b1,0,none⟩)] yEu (oZ [w0,w1,w2,w3]) b1 Kb (BxW b1 [w0,w1,w2,w3]) w:=by
 intro l J W hW hT hY h0;refine callsIn_of_wp Tryz.func151 rfl trivial ?_ rfl;simp only[Tryz.ntmps151,List.size_toArray,List.length_cons,List.length_nil,Nat.reduceAdd,Nat.reduceSub,Array.replicate_succ,Array.replicate_zero,List.push_toArray,List.append_toArray,List.nil_append,List.cons_append];have hbx:W.heap[b1]?=some (.cells #[.int .u64 w0,.int .u64 w1,.int .u64 w2,.int .u64 w3] 25 (0,0)):=(hW b1 hK1).trans kY;have c0:W.cell? ⟨b1,0,none⟩=some (.int .u64 w0):=by simp[World.cell?,hbx]
 have c1:W.cell? ⟨b1,1,none⟩=some (.int .u64 w1):=by simp[World.cell?,hbx]
 have c2:W.cell? ⟨b1,2,none⟩=some (.int .u64 w2):=by simp[World.cell?,hbx]
 have c3:W.cell? ⟨b1,3,none⟩=some (.int .u64 w3):=by simp[World.cell?,hbx]
 gi_wp2
 gi_loopw [6] (λi wr=>∃ (k:Nat) (pre:List UInt8),k<=4/\i=.int .i64 k/\oZ [w0,w1,w2,w3]=pre++Mr k ([w0,w1,w2,w3].drop k)/\J pre wr/\∀ j,Kb j->wr.heap[j]?=w.heap[j]?)
  (λi _=>match i with|.int _ k=>(4-k).toNat|_=>0)
 case atStart=>exact⟨0,[],by omega,rfl,rfl,h0,hW⟩
 case round =>
  obtain⟨k,pre,hk,rfl,hx,hJ,hH⟩:=hrel;by_cases hk4:k=4
  ·subst hk4
   gi_wp2
   go_end0
   refine⟨⟨_,rfl⟩,?_⟩;rw[hx];simpa [Mr]using hJ
  have hlt:(k:Int)<4:=by omega
  obtain⟨wk,hwk,hrest⟩:∃ wk:Nat,wk<18446744073709551616/\(∀ wr,(Instr.index 25 (.agg #[.int .u64 w0,.int .u64 w1,.int .u64 w2,.int .u64 w3]) (.int .i64 k)).run Tryz.prog wr=.ok (.int .u64 wk) wr) /\
   Mr k ([w0,w1,w2,w3].drop k)=(Ms wk).map (λb=>UInt8.ofNat (64*k+b))++Mr (k+1) ([w0,w1,w2,w3].drop (k+1)):=by
   have hc:k=0\/k=1\/k=2\/k=3:=by omega
   rcases hc with rfl|rfl|rfl|rfl
   ·obtain⟨q1,q2⟩:=hr w0 (by simp);exact⟨w0.toNat,by omega,λ_=>by rw[show((w0.toNat:Nat):Int)=w0 by omega];rfl,rfl⟩
   ·obtain⟨q1,q2⟩:=hr w1 (by simp);exact⟨w1.toNat,by omega,λ_=>by rw[show((w1.toNat:Nat):Int)=w1 by omega];rfl,rfl⟩
   ·obtain⟨q1,q2⟩:=hr w2 (by simp);exact⟨w2.toNat,by omega,λ_=>by rw[show((w2.toNat:Nat):Int)=w2 by omega];rfl,rfl⟩
   ·obtain⟨q1,q2⟩:=hr w3 (by simp);exact⟨w3.toNat,by omega,λ_=>by rw[show((w3.toNat:Nat):Int)=w3 by omega];rfl,rfl⟩
  obtain⟨hidx,hrest⟩:=hrest
  gi_wp2
  gi_loopw [4] (λu wr2=>∃ (x:Nat) (Sc:List UInt8),u=.int .u64 x/\x<18446744073709551616/\oZ [w0,w1,w2,w3]=Sc++((Ms x).map (λb=>UInt8.ofNat (64*k+b))++Mr (k+1) ([w0,w1,w2,w3].drop (k+1)))/\J Sc wr2/\∀ j,Kb j->wr2.heap[j]?=w.heap[j]?)
   (λu _=>match u with|.int _ k=>k.toNat|_=>0)
  case atStart=>exact⟨wk,pre,rfl,hwk,by rw[hx,hrest],hJ,hH⟩
  case round =>
   obtain⟨x,Sc,rfl,hxl,hx2,hJ2,hH2⟩:=hrel;by_cases hx0:x=0
   ·subst hx0
    gi_wp2
    go_roundw
    case rel =>
     refine⟨k+1,Sc,by omega,by simp,?_,hJ2,hH2⟩;rw[hx2,yEt];simp
    case measure=>simp;omega
   ·have hx0':((x:Nat):Int)≠0:=by omega
    have f152:Fence.wide.fn 152:=trivial;obtain⟨b,m,hxe⟩:=zQs (w:=x) (by omega);have hGr:Glob Tryz.prog wr:=by
     intro g y hg q hq;have hg6:g<6:=by
      have:=(Array.getElem?_eq_some_iff.1 hg).1;have hs:Tryz.prog.globals.size=6:=by kernel_rfl
      omega
     exact(hG g y hg q hq).at (hH2 g (hK0 g hg6))
    have hC:CallsIn Fence.wide (n-1) Tryz.prog 152 #[.int .u64 x] wr λe w'=>e=.returned (.int .i64 b)/\w'=wr:=by
     have:=(callsIn_wide (n:=n-1)).2 (yMm (k:=b) (m:=m) (by rw[<- hxe];exact hxl) wr hGr);rw[<- hxe]at this;exact this
    have hxb:(((x:Nat):Int) != 0)=true:=by simpa using hx0
    have xBl:b<64:=(zAh (k:=b) (m:=m) (by rw[<- hxe];exact hxl)).1;have yOz:Ms x=b::Ms (x &&& (x-1)):=by rw[hxe];exact(zAh (k:=b) (m:=m) (by rw[<- hxe];exact hxl)).2
    have hless:x &&& (x-1)<x:=by
     have:x &&& (x-1)<=x-1:=Nat.and_le_right;omega
    have hsub:IntKind.u64.wrap ((x:Int)-1)=((x-1:Nat):Int):=by rw[IntKind.wrap_u64];omega
    have hand:bits .and .u64 (x:Int) ((x-1:Nat):Int)=((x &&& (x-1):Nat):Int):=bits_and_u64_nat _ _ hxl (by omega);clear hxe;have hbyte:(k:Int)*64+(b:Int)=(((UInt8.ofNat (64*k+b)).toNat:Nat):Int):=by
     rw[UInt8.toNat_ofNat'];omega
    have yOq:Sc.length<(oZ [w0,w1,w2,w3]).length:=by rw[hx2,yOz];simp
    have hY1:=hY Sc (UInt8.ofNat (64*k+b)) wr hJ2 yOq;rw[yEu,<- hbyte]at hY1;clear hbyte
    gi_wp2_with (gi_at_call 152;refine hC.mono ?_;rintro e w' ⟨rfl,rfl⟩)
    obtain⟨fn,tmps,assign,body,hy,hR⟩:=hY1;rw[hy]
    gi_wp2
    refine hR.mono ?_;rintro e W3 ⟨rfl,hJ3,hk3⟩
    gi_wp2
    go_roundw
    case rel =>
     refine⟨x &&& (x-1),Sc++[UInt8.ofNat (64*k+b)],rfl,by omega,?_,hJ3,λj hj=>(hk3 j hj).trans (hH2 j hj)⟩;rw[hx2,yOz];simp
    case measure=>simp;omega
def Mt (l:List UInt8):List Value:=l.map fun x => .int .u8 (x.toNat:Int)
theorem cell_one_new(W:World)(a:Value)(t:TypeId):∀ j u,[a][j]?=some u->(W.alloc (.cells #[a] t)).cell? (Addr.add ⟨W.heap.size,0,none⟩ j)=some u:=by
 intro j u hj;have h:=World.alloc_heap_new W (.cells #[a] t);have e:∀ i,(W.alloc (.cells #[a] t)).cell? ⟨W.heap.size,i,none⟩=#[a][i]?:=λi=>by unfold World.cell?;rw[h];rfl
 match j with
 |0=>exact(e 0).trans (by simpa using hj)
 |j+1=>simp at hj
theorem info5:(Tryz.prog.info? 5).map (λi=>(i.zero,i.size,i.bytes))=some (some (.int .u8 0),1,1):=by kernel_rfl
structure zVy (w:World) (b1:Nat) (ws:List Int) (pre:List UInt8) (W:World):Prop where
 os:W.os=w.os
 tape:W.tape=w.tape
 output:W.output=w.output
 below:Below w.heap.size w W
 row:∃ v,Boxed W w.heap.size 96 v/\W.ownsRow w.heap.size 5 1 v pre.length (Mt pre)
theorem zVy.kept{w:World}{b1:Nat}{ws:List Int}{pre:List UInt8}{A B:World}{row:Option Nat}(h:zVy w b1 ws pre A)(hw:BxW b1 ws w)(hg:A.grownBy B row)(hr:∀ r,row=some r->(r=b1/\BxW b1 ws B)\/(w.heap.size+1<=r/\∃ o:Obj,A.heap[r]?=some o/\o.isCells=false)):zVy w b1 ws pre B:=by
 have hb1:b1<w.heap.size:=(Array.getElem?_eq_some_iff.1 hw).1;obtain⟨v,hv,hrow⟩:=h.row;have hnb:∀ {b:Nat}{cs:Array Value}{t:TypeId},A.heap[b]?=some (.cells cs t (0,0))->b≠b1->some b≠row:=by
  intro b cs t hb hne e;rcases hr b e.symm with ⟨h1,_⟩|⟨_,o,ho,hc⟩
  ·exact hne h1
  ·rw[hb]at ho;cases ho;cases hc
 refine⟨hg.os.trans h.os,hg.tape.trans h.tape,hg.output.trans h.output,⟨hg.os.trans h.os,hg.tape.trans h.tape,hg.output.trans h.output,Nat.le_trans h.below.size hg.size,λk hk=>?_⟩,v,hv.kept hg (hnb hv (by omega)),hrow.kept hg ?_⟩
 ·by_cases e:row=some k
  ·rcases hr k e with ⟨rfl,h2⟩|⟨h1,_⟩
   ·exact(show B.heap[k]?=_ from h2).trans (show w.heap[k]?=_ from hw).symm
   ·omega
  ·rw[hg.block k (Nat.lt_of_lt_of_le hk h.below.size) (λh=>e h.symm)];exact h.below.block k hk
 ·rcases hrow.2 with ⟨rfl,_⟩|⟨g,cap,cur,rfl,hgB,hgb,_⟩
  ·exact .inl rfl
  ·refine .inr λe'=>?_
   have e2:some g=row:=by simpa [Value.ownBlock]using e'
   exact hnb hgb (by omega) e2
set_option maxRecDepth 100000 in
set_option maxHeartbeats 2000000 in
theorem appendSeq_in(b1:Nat)(w0 w1 w2 w3:Int)(w:World)(hr:∀ x∈[w0,w1,w2,w3],0<=x/\x<18446744073709551616)(hG:Glob Tryz.prog w)(kY:BxW b1 [w0,w1,w2,w3] w)(hsz:6<=b1)(hlen:(oZ [w0,w1,w2,w3]).length<=1000):CallsIn Fence.wide 5 Tryz.prog 150 #[.slice none 0 0,.func (.func 151) #[] #[.pointer (some ⟨b1,0,none⟩)]] w λe W'=>∃ v,e=.returned v/\W'.os=w.os/\W'.tape=w.tape/\W'.output=w.output/\W'.ownsRow w.heap.size 5 1 v (oZ [w0,w1,w2,w3]).length (Mt (oZ [w0,w1,w2,w3]))/\Below w.heap.size w W':=by
 have hb1:b1<w.heap.size:=(Array.getElem?_eq_some_iff.1 kY).1;obtain⟨i0,hi,hz0,hz1,hz2⟩:=info_parts info5;refine callsIn_of_wp_marks Tryz.func150 rfl trivial ?_ rfl;simp only[Tryz.ntmps150,List.size_toArray,List.length_cons,List.length_nil,Nat.reduceAdd,Nat.reduceSub,Array.replicate_succ,Array.replicate_zero,List.push_toArray,List.append_toArray,List.nil_append,List.cons_append]
 gi_wp2
 have bO:=Boxed.new w 96 (.slice none 0 0);have hB0:Below w.heap.size w (w.alloc (.cells #[.slice none 0 0] 96)):=(Below.refl _ w).alloc (bA _) _;have yWr:BxW b1 [w0,w1,w2,w3] (w.alloc (.cells #[.slice none 0 0] 96)):=(hB0.block b1 hb1).trans kY;have hG1:Glob Tryz.prog (w.alloc (.cells #[.slice none 0 0] 96)):=hG.keep λb hb=>hB0.block b hb
 refine zKd rfl (by omega) (gf:=151) (lb:=#[.pointer (some ⟨b1,0,none⟩)]) rfl trivial (enters_of Tryz.func151 (by kernel_rfl) rfl)
  (encs:=yEu) (xs:=oZ [w0,w1,w2,w3]) (b1:=b1) (Kb:=λk=>k<w.heap.size) (Bx:=BxW b1 [w0,w1,w2,w3]) (by intro k hk;simp;omega) hb1
  (yEv _ b1 w0 w1 w2 w3 _ (by omega) hr hG1 yWr hsz _ hb1 (λg hg=>by omega)) (λ_=>rfl)
  (zVy w b1 [w0,w1,w2,w3])
  (λpre x a1 W=>zVy w b1 [w0,w1,w2,w3] pre W/\a1={ tmps:=#[.slice none 0 0,.func (.func 151) #[] #[.pointer (some ⟨b1,0,none⟩)],.pointer (some ⟨w.heap.size,0,none⟩),undef,.slice none 0 0,.int .u8 (x.toNat:Int),.func (.func 151) #[] #[.pointer (some ⟨b1,0,none⟩)],.int .u8 (x.toNat:Int),undef,undef,undef,undef,undef],defers:=[] })
  ?hI ?hI2 ?h0 ?assign ?body ?done
 case hI =>
  intro pre A B row h hg hr;exact h.kept kY hg (λr e=>by simpa using hr r e)
 case hI2 =>
  rintro pre x c A B row ⟨h,rfl⟩ hg hr;exact⟨h.kept kY hg (λr e=>.inr (by simpa using hr r e)),rfl⟩
 case h0=>exact⟨rfl,rfl,rfl,hB0,_,bO,World.ownsRow_nil _ _ _ _⟩
 case assign =>
  intro l pre x W h hsz';simp only[yEu]
  gi_wp2
  exact⟨⟨h,trivial⟩,λk o _ hk _=>hk,λk hk=>trivial⟩
 case body =>
  rintro l pre x a1 W ⟨h,rfl⟩ hlt;obtain⟨v,hv,hrow⟩:=h.row;have hc:=hv.cell;have hm1:pre.length+1<=maxLen:=by unfold maxLen;omega
  have hm2:(pre.length+1)*1<=140737488355328:=by omega
  have hm3:∀ o,w.heap.size<=(W.alloc o).heap.size:=λo=>by have:=h.below.size;simp;omega
  gi_wp2_with (gi_at_builtin;refine wpListIn_append_own _ rfl _ _ 96 rfl w.heap.size 5 i0 _ 1 1 Tryz.underlying96 hi hz0 hz1 hz2 rfl (by decide) _ _ _ rfl (hrow.alloc _) ⟨W.heap.size,0,none⟩ 1 1 [.int .u8 (x.toNat:Int)] rfl rfl (cell_one_new _ _ _) (by simp[Value.oneCell']) hm1 hm2 (hm3 _) ?_;intro v' w1 hown' hgrow _;obtain⟨g',cap',rfl⟩:=ownsRow_succ hown';obtain⟨hv1,hv2,hr2,hk2,hb2⟩:=hv.appended (by decide) hrow h.below.size (bA _) hown' hgrow;have hc1:=hv1.cell;have hf1:=hv1.frozen)
  refine⟨λk o _=>hk2.same k o,λk hk=>hb2.block k hk,hgrow.os.trans h.os,hgrow.tape.trans h.tape,hgrow.output.trans h.output,h.below.trans hb2,_,hv2,?_⟩;have e:Mt (pre++[x])=Mt pre++[.int .u8 (x.toNat:Int)]:=by simp[Mt]
  rw[e];simpa using hr2
 case done =>
  intro D W hD h hK;obtain⟨v,hv,hrow⟩:=h.row;have hc:=hv.cell;have hf:=hv.frozen;obtain⟨a,k,c,rfl⟩:∃ a k c,v=.slice a k c:=by
   rcases hrow.2 with ⟨rfl,_⟩|⟨g,cap,cur,rfl,_⟩
   ·exact⟨_,_,_,rfl⟩
   ·exact⟨_,_,_,rfl⟩
  gi_wp2
  have hD':w.heap.size+1<=D:=by simpa using hD
  refine⟨by simp,.inl ⟨_,_,rfl,run_takeDeferred hK,?_⟩⟩;have g2:=grownBy_putObj' W D (.deferred none);refine⟨.slice a k c,?_,.slice a k c,rfl,g2.os.trans h.os,g2.tape.trans h.tape,g2.output.trans h.output,ownsRow_putObj hrow _ hK rfl,h.below.grown g2 h.below.size (λj e=>by cases e;omega)⟩;simp[results,go_sem]
theorem Ra(i w:Nat):(zKe i w).length<=64:=by
 unfold zKe;rw[List.length_map];exact Nat.le_trans (List.length_filter_le _ _) (by simp)
theorem yEw(w0 w1 w2 w3:Int):(oZ [w0,w1,w2,w3]).length<=1000:=by
 have h0:=Ra 0 w0.toNat;have h1:=Ra 1 w1.toNat;have h2:=Ra 2 w2.toNat;have h3:=Ra 3 w3.toNat;simp only[oZ,Mr,List.length_append,List.length_nil,Nat.zero_add,Nat.reduceAdd];omega
theorem zRs(b1:Nat)(w0 w1 w2 w3:Int)(w:World)(hr:∀ x∈[w0,w1,w2,w3],0<=x/\x<18446744073709551616)(hG:Glob Tryz.prog w)(kY:BxW b1 [w0,w1,w2,w3] w)(hsz:6<=b1):Calls Tryz.prog 107 #[.func (.func 151) #[] #[.pointer (some ⟨b1,0,none⟩)]] w λe W'=>∃ v,e=.returned v/\W'.os=w.os/\W'.tape=w.tape/\W'.output=w.output/\W'.ownsRow w.heap.size 5 1 v (oZ [w0,w1,w2,w3]).length (Mt (oZ [w0,w1,w2,w3]))/\Below w.heap.size w W':=by
 have xBm:∀ args w,(callFunc 150 args).run Tryz.prog w=.ok (.enter 150 args) w:=λargs w=>iZ (by kernel_rfl) args w
 go_enter Tryz.func107,Tryz.ntmps107
 go_wp2_with (go_at_call 150;refine(callsIn_wide.1 (appendSeq_in b1 w0 w1 w2 w3 _ hr hG kY hsz (yEw _ _ _ _))).mono ?_;rintro e w' ⟨v,rfl,hh⟩)
 go_ret
 exact⟨v,rfl,hh⟩
theorem yIg(b1:Nat)(a b c d:Int)(w:World):Calls Tryz.prog 108 #[.agg #[.int .u64 a,.int .u64 b,.int .u64 c,.int .u64 d]] w λe w'=>e=.returned (.func (.func 151) #[] #[.pointer (some ⟨w.heap.size,0,none⟩)])/\w'=w.alloc (.cells #[.int .u64 a,.int .u64 b,.int .u64 c,.int .u64 d] 25):=by
 have hmf:∀ (fn:Fn) (first cap:Array Value) (w:World),(Instr.makeFunc fn first cap).run Tryz.prog w=.ok (.func fn first cap) w:=λ_ _ _ _=>rfl
 go_enter Tryz.func108,Tryz.ntmps108
 go_wp2
 go_ret
 exact⟨rfl,rfl⟩
theorem yWs{W:World}{B:Nat}{v:Value}{xs:List UInt8}(h:W.ownsRow B 5 1 v xs.length (Mt xs)):(convert 96 9 v).run Tryz.prog W=.ok (.string ⟨xs.toArray⟩) W:=by
 rcases h.2 with ⟨rfl,h0⟩|⟨g,cap,cur,rfl,hg,hcur,h2,h3,h4,h5⟩
 ·have:xs=[]:=List.eq_nil_of_length_eq_zero h0;subst this;rw[run_convert_bytes_nil (P:=Tryz.prog) W 96 5 Tryz.underlying96 Tryz.underlying5 0 0 9 Tryz.underlying9];rfl
 ·have hc:∀ i,i<xs.length->W.cell? ⟨g,0+i,none⟩=some (.int .u8 (((xs.map λx=>(x.toNat:Int))).getD i 0)):=by
   intro i hi;have e2:W.cell? ⟨g,0+i,none⟩=cur[0+i]?:=by unfold World.cell?;rw[hcur];rfl
   rw[e2,Nat.zero_add];have h6:(cur.toList.take (xs.length*1))[i]?=(Mt xs)[i]?:=by rw[h5]
   rw[List.getElem?_take_of_lt (by omega)]at h6;rw[<- Array.getElem?_toList,h6];simp[Mt,hi]
  have:=run_convert_bytes_arg (P:=Tryz.prog) W 96 5 Tryz.underlying96 Tryz.underlying5 g 0 xs.length cap (xs.map λx=>(x.toNat:Int)) (by simp) (λi hi=>hc i (by simpa using hi)) 9 Tryz.underlying9;rw[this];have e:∀ l:List UInt8,(l.map λx=>(x.toNat:Int)).map (λn=>UInt8.ofNat n.toNat)=l:=λl=>by
   rw[List.map_map];exact(List.map_congr_left λx _=>by simp).trans (List.map_id l)
  have e2:strOfNums (xs.map λx=>(x.toNat:Int))=⟨xs.toArray⟩:=by
   unfold strOfNums;rw[e xs]
  rw[e2]
abbrev Mv:List Ty:=[.arr 4 (.int .u64)]
abbrev Mw:List Ty:=[.str]
theorem yAg(a b c d:Int)(w:World)(hr:∀ x∈[a,b,c,d],0<=x/\x<18446744073709551616)(hG:Glob Tryz.prog w)(hsz:6<=w.heap.size):Calls Tryz.prog 68 #[.agg #[.int .u64 a,.int .u64 b,.int .u64 c,.int .u64 d]] w λe W'=>e=.returned (.string ⟨(oZ [a,b,c,d]).toArray⟩)/\Below w.heap.size w W':=by
 have xBn:∀ args w,(callFunc 107 args).run Tryz.prog w=.ok (.enter 107 args) w:=λargs w=>iZ (by kernel_rfl) args w
 have e108:∀ args w,(callFunc 108 args).run Tryz.prog w=.ok (.enter 108 args) w:=λargs w=>iZ (by kernel_rfl) args w
 go_enter Tryz.func68,Tryz.ntmps68
 go_wp2_with (go_at_call 108;refine(yIg 0 a b c d _).mono ?_;rintro e w' ⟨rfl,rfl⟩)
 have hk1:Below w.heap.size w ((w.alloc (.cells #[.int .u64 a,.int .u64 b,.int .u64 c,.int .u64 d] 25)).alloc (.cells #[.int .u64 a,.int .u64 b,.int .u64 c,.int .u64 d] 25)):=((Below.refl _ w).alloc (bA _) _).alloc (by simp) _;have kY:BxW (w.heap.size+1) [a,b,c,d] ((w.alloc (.cells #[.int .u64 a,.int .u64 b,.int .u64 c,.int .u64 d] 25)).alloc (.cells #[.int .u64 a,.int .u64 b,.int .u64 c,.int .u64 d] 25)):=by
  have:=World.alloc_heap_new (w.alloc (.cells #[.int .u64 a,.int .u64 b,.int .u64 c,.int .u64 d] 25)) (.cells #[.int .u64 a,.int .u64 b,.int .u64 c,.int .u64 d] 25);rw[World.size_alloc]at this;exact this
 refine(zRs (w.heap.size+1) a b c d _ hr (hG.keep λb hb=>hk1.block b hb) kY (by omega)).mono ?_;rintro e w' ⟨v,rfl,ho,ht,hou,hrow,hb⟩;have hcv:=yWs hrow
 go_wp2
 go_ret
 refine⟨rfl,ho.trans hk1.os,ht.trans hk1.tape,hou.trans hk1.output,Nat.le_trans hk1.size hb.size,λk hk=>(hb.block k (by simp;omega)).trans (hk1.block k hk)⟩
theorem Hq(n:Nat):Pure Tryz.prog 68 Mv Mw (sF n):=by
 refine⟨by kernel_rfl,λx y hF w N vs hG _ hx=>?_⟩;obtain⟨hc,hy⟩:=iV hF;obtain rfl:=Option.some.inj hy;simp only[aH]at hc;obtain⟨hc1,hc2⟩:=hc;have hl:=aU hc1;obtain⟨u,rfl,cs,rfl,hrel⟩:=hx;match x,hl with
 |[a,b,c,d],_ =>
  obtain⟨_,css,rfl,hall⟩:=hrel;have hcells:css.flatten=[.int .u64 a,.int .u64 b,.int .u64 c,.int .u64 d]:=by
   match css,hall with
   |[c1,c2,c3,c4],⟨r1,r2,r3,r4,_⟩=>
    simp only[Ty.Rel]at r1 r2 r3 r4;subst r1 r2 r3 r4;rfl
  have hsz:6<=w.heap.size:=by
   obtain⟨v,hv,_⟩:=hG 5 (Tryz.prog.globals[5]'(by decide +kernel)) (by rw[Array.getElem?_eq_getElem]) .any (by kernel_rfl);rcases jZ 5 w.heap.size with h|h
   ·omega
   ·simp[World.cell?,Array.getElem?_eq_none h]at hv
  rw[hcells];refine(yAg a b c d w ?_ hG hsz).mono ?_
  ·intro z hz;rw[List.all_eq_true]at hc2;have:=hc2 z hz;simpa using this
  ·rintro e w' ⟨rfl,hb⟩;exact⟨[_],rfl,hb.os,hb.tape,hb.output,Em hb,_,rfl,by simp[Ty.gJ,Ty.isAgg,Ty.Rel]⟩
end Go.Dec
