/- Part of a proof over this seat: a library of my own, and what it says of this seat. No statement is proved here. -/
import Derived.Test.YtdgneppobefaoaaGreatDoorPartBL
import Derived.WalkKit
import Derived.WalkSmall
import Derived.Laws.BytesArg
import Derived.RangeFuncRecord
import Derived.LoopN
import Derived.Test.YtdgneppobefaoaaGreatDoorPartBO
import Derived.Test.YtdgneppobefaoaaGreatDoorProg
import Derived.Lib.ConvBytes
import Derived.KernelRfl
import Derived.Test.YtdgneppobefaoaaGreatDoorPartBQ
import Derived.Test.YtdgneppobefaoaaGreatDoorPartAJ
namespace Go.Dec
open Go.Proofs Go.RowKit Go.Sort Go.Lib
theorem zPz (w:World):Calls Tryz.prog 227 #[.int .i64 8] w fun e w'=>e=.returned (.bool true)∧w'=w:=by
 go_enter Tryz.func227,Tryz.ntmps227
 go_wp2
 go_ret
 exact ⟨by rw [show (bits BinOp.and IntKind.i64 8 7 == 0)=true from by decide +kernel]; rfl,rfl⟩
theorem zZb {w:World} (hG:Glob Tryz.prog w) (i:Nat) (hi:i < 64):w.cell? ⟨5,i,none⟩=some (.int .u8 (nA.getD i 0)):=by
 obtain ⟨a,b,h⟩:=hG 5 (Tryz.prog.globals[5]'(by decide +kernel)) (by rw [Array.getElem?_eq_getElem]) (.tab .u8 nA) (by kernel_rfl)
 have hl:i < nA.length:=by rw [show nA.length=64 from rfl]; exact hi
 simp [World.cell?,h,hl]
def tzI (x:Int):Int:=IntKind.u64.wrap (bits BinOp.and IntKind.u64 x (IntKind.u64.wrap (-x)) * 285870213051353865) / 288230376151711744
theorem zZc (x:Int) (j:Nat) (w:World) (hx:x ≠ 0) (hj:tzI x=j) (zZd:j < 64) (hG:Glob Tryz.prog w):Calls Tryz.prog 298 #[.int .u64 x] w fun e w'=>e=.returned (.int .i64 (nA.getD j 0))∧w'=w:=by
 have hr:0 <= tzI x∧tzI x < 64:=by rw [hj]; omega
 have hc:w.cell? ⟨5,(tzI x).toNat,none⟩=some (.int .u8 (nA.getD j 0)):=by rw [hj]; exact zZb hG j zZd
 unfold tzI at hr hc
 have hx0:(x == 0)=false:=by simpa using hx
 have hb:wrap64 (nA[j]?.getD 0)=nA.getD j 0:=by
  have:∀ j,j < 64->wrap64 (nA[j]?.getD 0)=nA.getD j 0:=by decide +kernel
  exact this j zZd
 go_enter Tryz.func298,Tryz.ntmps298
 go_wp2
 go_ret
 refine ⟨?_,rfl⟩
 show Ending.returned (.int .i64 (wrap64 (nA[j]?.getD 0)))=_
 rw [hb]
theorem zBh (x:Int) (j:Nat) (w:World) (hx:x ≠ 0) (hj:tzI x=j) (zZd:j < 64) (hG:Glob Tryz.prog w):Calls Tryz.prog 228 #[.int .u64 x] w fun e w'=>e=.returned (.int .i64 (nA.getD j 0))∧w'=w:=by
 go_enter Tryz.func228,Tryz.ntmps228
 go_wp2_with (go_at_call 298; refine (zZc x j _ hx hj zZd hG).mono ?_; rintro e w' ⟨rfl,rfl⟩)
 go_ret
 exact ⟨rfl,rfl⟩
end Go.Dec
namespace Go.Dec
open Go.Proofs Go.RowKit Go.Sort Go.Lib
theorem Ng (v:Nat) (h:v < 8):((#[48,49,50,51,52,53,54,55,56,57,97,98,99,100,101,102,103,104,105,106,107,108,109,110,111,112,113,114,115,116,117,118,119,120,121,122]:Array UInt8)[v]?).getD 0=UInt8.ofNat (48+v):=by
 have:∀ v,v < 8->((#[48,49,50,51,52,53,54,55,56,57,97,98,99,100,101,102,103,104,105,106,107,108,109,110,111,112,113,114,115,116,117,118,119,120,121,122]:Array UInt8)[v]?).getD 0=UInt8.ofNat (48+v):=by decide +kernel
 exact this v h
theorem and7 (v:Int) (h0:0 <= v) (h1:v < 256):bits BinOp.and IntKind.u64 v 7=v % 8:=by
 have:∀ v:Nat,v < 256->bits BinOp.and IntKind.u64 (v:Int) 7=(v:Int) % 8:=by decide +kernel
 have:=this v.toNat (by omega)
 rwa [Int.toNat_of_nonneg h0] at this
theorem yGo (v:Int):v / 2 ^ min (IntKind.u64.wrap (nA[7]?.getD 0)).toNat 64=v / 8:=by
 rw [show (IntKind.u64.wrap (nA[7]?.getD 0)).toNat=3 by decide +kernel]
 rfl
theorem zZe {W:World} {N o n:Nat} {l:List UInt8} (hn:l.length=n) (hc:∀ i (h:i < l.length),W.cell? ⟨N,o+i,none⟩=some (.int .u8 (l[i].toNat:Int))):(convert 31 9 (.slice (some ⟨N,o,none⟩) n n)).run Tryz.prog W=.ok (.string ⟨l.toArray⟩) W:=by
 subst hn
 have h:=run_convert_bytes_arg (P:=Tryz.prog) W 31 5 Tryz.underlying31 Tryz.underlying5 N o l.length l.length (l.map fun b=>(b.toNat:Int)) (by simp) (fun i hi=>by
  have e:(l.map fun b=>(b.toNat:Int)).getD i 0=(l[i].toNat:Int):=by simp [List.getD_eq_getElem?_getD,hi]
  rw [e]
  exact hc i hi) 9 Tryz.underlying9
 rw [h]
 have e:(l.map fun b=>(b.toNat:Int)).map (fun n=>UInt8.ofNat n.toNat)=l:=by
  rw [List.map_map]
  have:((fun n:Int=>UInt8.ofNat n.toNat) ∘ fun b:UInt8=>(b.toNat:Int))=id:=by funext b; simp
  rw [this,List.map_id]
 unfold strOfNums
 rw [e]
set_option maxRecDepth 100000 in
set_option maxHeartbeats 2000000 in
theorem zKw (v:Int) (w:World) (h0:0 <= v) (h1:v < 8) (hG:Glob Tryz.prog w):Calls Tryz.prog 186 #[.slice none 0 0,.int .u64 v,.int .i64 8,.bool false,.bool false] w fun e w'=>e=.returned (.tuple #[.slice none 0 0,.string ⟨([UInt8.ofNat (48+v.toNat)]:List UInt8).toArray⟩])∧Below w.heap.size w w':=by
 have yNp:∀ args w,(callFunc 227 args).run Tryz.prog w=.ok (.enter 227 args) w:=fun args w=>dW (by kernel_rfl) args w
 have yNq:∀ args w,(callFunc 228 args).run Tryz.prog w=.ok (.enter 228 args) w:=fun args w=>dW (by kernel_rfl) args w
 go_enter Tryz.func186,Tryz.ntmps186
 go_wp2_with (go_at_call 227; refine (zPz _).mono ?_; rintro e w' ⟨rfl,rfl⟩)
 go_wp2_with (go_at_call 228; refine (zBh 8 7 _ (by decide) (by decide +kernel) (by decide) (hG.keep fun b hb=>Below.heap_alloc _ _ b hb)).mono ?_; rintro e w' ⟨rfl,rfl⟩)
 have g1:¬ 8 <= v:=by omega
 have g2:v < 36:=by omega
 refine wp_loop_rounds 1 ?_
 rw [rounds_succ]
 go_wp2
 have hz:Tryz.zeroCells313.size=65:=by kernel_rfl
 have x0:=Ng v.toNat (by omega)
 rw [Array.getElem?_eq_getElem (by simp; omega),Option.getD_some] at x0
 rw [zZe (n:=1) (o:=64) (l:=[UInt8.ofNat (48+v.toNat)]) rfl (by
  intro i hi
  unfold World.cell?
  rw [World.alloc_heap_new]
  match i,hi with
  | 0,_ =>
   simp only [Array.getElem?_setIfInBounds,Array.size_setIfInBounds,hz,Nat.add_zero,List.getElem_cons_zero,List.getElem_cons_succ,Nat.reduceAdd,Nat.reduceEqDiff,if_true,if_false,Nat.reduceLT]
   rw [<- x0]
   rfl)]
 go_wp2
 first | go_ret2 | go_ret
 exact ⟨rfl,⟨rfl,rfl,rfl,by simp,fun b hb=>Below.heap_alloc _ _ b hb⟩⟩
set_option maxRecDepth 100000 in
set_option maxHeartbeats 2000000 in
theorem zKx (v:Int) (w:World) (h0:8 <= v) (h1:v < 64) (hG:Glob Tryz.prog w):Calls Tryz.prog 186 #[.slice none 0 0,.int .u64 v,.int .i64 8,.bool false,.bool false] w fun e w'=>e=.returned (.tuple #[.slice none 0 0,.string ⟨([UInt8.ofNat (48+(v / 8).toNat),UInt8.ofNat (48+(v % 8).toNat)]:List UInt8).toArray⟩])∧Below w.heap.size w w':=by
 have yNp:∀ args w,(callFunc 227 args).run Tryz.prog w=.ok (.enter 227 args) w:=fun args w=>dW (by kernel_rfl) args w
 have yNq:∀ args w,(callFunc 228 args).run Tryz.prog w=.ok (.enter 228 args) w:=fun args w=>dW (by kernel_rfl) args w
 go_enter Tryz.func186,Tryz.ntmps186
 go_wp2_with (go_at_call 227; refine (zPz _).mono ?_; rintro e w' ⟨rfl,rfl⟩)
 go_wp2_with (go_at_call 228; refine (zBh 8 7 _ (by decide) (by decide +kernel) (by decide) (hG.keep fun b hb=>Below.heap_alloc _ _ b hb)).mono ?_; rintro e w' ⟨rfl,rfl⟩)
 have g1:8 <= v:=by omega
 have g3:¬ 8 <= v / 8:=by omega
 have g4:0 <= v / 8:=by omega
 have g5:v / 8 < 36:=by omega
 have a1:=and7 v (by omega) (by omega)
 have b1:0 <= v % 8:=by omega
 have b2:v % 8 < 36:=by omega
 refine wp_loop_rounds 2 ?_
 rw [rounds_succ]
 go_wp2
 rw [yGo]
 rw [rounds_succ]
 go_wp2
 have hz:Tryz.zeroCells313.size=65:=by kernel_rfl
 have x0:=Ng (v / 8).toNat (by omega)
 rw [Array.getElem?_eq_getElem (by simp; omega),Option.getD_some] at x0
 have x1:=Ng (v % 8).toNat (by omega)
 rw [Array.getElem?_eq_getElem (by simp; omega),Option.getD_some] at x1
 rw [zZe (n:=2) (o:=63) (l:=[UInt8.ofNat (48+(v / 8).toNat),UInt8.ofNat (48+(v % 8).toNat)]) rfl (by
  intro i hi
  unfold World.cell?
  rw [World.alloc_heap_new]
  match i,hi with
  | 0,_ =>
   simp only [Array.getElem?_setIfInBounds,Array.size_setIfInBounds,hz,Nat.add_zero,List.getElem_cons_zero,List.getElem_cons_succ,Nat.reduceAdd,Nat.reduceEqDiff,if_true,if_false,Nat.reduceLT]
   rw [<- x0]
   rfl
  | 1,_ =>
   simp only [Array.getElem?_setIfInBounds,Array.size_setIfInBounds,hz,Nat.add_zero,List.getElem_cons_zero,List.getElem_cons_succ,Nat.reduceAdd,Nat.reduceEqDiff,if_true,if_false,Nat.reduceLT]
   rw [<- x1]
   rfl)]
 go_wp2
 first | go_ret2 | go_ret
 exact ⟨rfl,⟨rfl,rfl,rfl,by simp,fun b hb=>Below.heap_alloc _ _ b hb⟩⟩
set_option maxRecDepth 100000 in
set_option maxHeartbeats 2000000 in
theorem zKy (v:Int) (w:World) (h0:64 <= v) (h1:v < 256) (hG:Glob Tryz.prog w):Calls Tryz.prog 186 #[.slice none 0 0,.int .u64 v,.int .i64 8,.bool false,.bool false] w fun e w'=>e=.returned (.tuple #[.slice none 0 0,.string ⟨([UInt8.ofNat (48+(v / 8 / 8).toNat),UInt8.ofNat (48+(v / 8 % 8).toNat),UInt8.ofNat (48+(v % 8).toNat)]:List UInt8).toArray⟩])∧Below w.heap.size w w':=by
 have yNp:∀ args w,(callFunc 227 args).run Tryz.prog w=.ok (.enter 227 args) w:=fun args w=>dW (by kernel_rfl) args w
 have yNq:∀ args w,(callFunc 228 args).run Tryz.prog w=.ok (.enter 228 args) w:=fun args w=>dW (by kernel_rfl) args w
 go_enter Tryz.func186,Tryz.ntmps186
 go_wp2_with (go_at_call 227; refine (zPz _).mono ?_; rintro e w' ⟨rfl,rfl⟩)
 go_wp2_with (go_at_call 228; refine (zBh 8 7 _ (by decide) (by decide +kernel) (by decide) (hG.keep fun b hb=>Below.heap_alloc _ _ b hb)).mono ?_; rintro e w' ⟨rfl,rfl⟩)
 have g1:8 <= v:=by omega
 have g2:8 <= v / 8:=by omega
 have g3:¬ 8 <= v / 8 / 8:=by omega
 have g4:0 <= v / 8 / 8:=by omega
 have g5:v / 8 / 8 < 36:=by omega
 have a1:=and7 v (by omega) (by omega)
 have a2:=and7 (v / 8) (by omega) (by omega)
 have b1:0 <= v % 8:=by omega
 have b2:v % 8 < 36:=by omega
 have b3:0 <= v / 8 % 8:=by omega
 have b4:v / 8 % 8 < 36:=by omega
 refine wp_loop_rounds 3 ?_
 rw [rounds_succ]
 go_wp2
 rw [yGo]
 rw [rounds_succ]
 go_wp2
 rw [yGo]
 rw [rounds_succ]
 go_wp2
 have hz:Tryz.zeroCells313.size=65:=by kernel_rfl
 have x0:=Ng (v / 8 / 8).toNat (by omega)
 rw [Array.getElem?_eq_getElem (by simp; omega),Option.getD_some] at x0
 have x1:=Ng (v / 8 % 8).toNat (by omega)
 rw [Array.getElem?_eq_getElem (by simp; omega),Option.getD_some] at x1
 have x2:=Ng (v % 8).toNat (by omega)
 rw [Array.getElem?_eq_getElem (by simp; omega),Option.getD_some] at x2
 rw [zZe (n:=3) (o:=62) (l:=[UInt8.ofNat (48+(v / 8 / 8).toNat),UInt8.ofNat (48+(v / 8 % 8).toNat),UInt8.ofNat (48+(v % 8).toNat)]) rfl (by
  intro i hi
  unfold World.cell?
  rw [World.alloc_heap_new]
  match i,hi with
  | 0,_ =>
   simp only [Array.getElem?_setIfInBounds,Array.size_setIfInBounds,hz,Nat.add_zero,List.getElem_cons_zero,List.getElem_cons_succ,Nat.reduceAdd,Nat.reduceEqDiff,if_true,if_false,Nat.reduceLT]
   rw [<- x0]
   rfl
  | 1,_ =>
   simp only [Array.getElem?_setIfInBounds,Array.size_setIfInBounds,hz,Nat.add_zero,List.getElem_cons_zero,List.getElem_cons_succ,Nat.reduceAdd,Nat.reduceEqDiff,if_true,if_false,Nat.reduceLT]
   rw [<- x1]
   rfl
  | 2,_ =>
   simp only [Array.getElem?_setIfInBounds,Array.size_setIfInBounds,hz,Nat.add_zero,List.getElem_cons_zero,List.getElem_cons_succ,Nat.reduceAdd,Nat.reduceEqDiff,if_true,if_false,Nat.reduceLT]
   rw [<- x2]
   rfl)]
 go_wp2
 first | go_ret2 | go_ret
 exact ⟨rfl,⟨rfl,rfl,rfl,by simp,fun b hb=>Below.heap_alloc _ _ b hb⟩⟩
end Go.Dec
namespace Go.Dec
open Go.Proofs Go.RowKit
theorem yJz (w:World):Calls Tryz.prog 88 #[.int .u8 92] w fun e w'=>e=.returned (.int .u8 124)∧w'=w:=by
 go_enter Tryz.func88,Tryz.ntmps88
 go_wp2
 first | go_ret2 | go_ret
 exact ⟨by rw [show bits BinOp.or IntKind.u8 92 32=124 from by decide +kernel]; rfl,rfl⟩
set_option maxRecDepth 100000 in
set_option maxHeartbeats 2000000 in
theorem ySx (r:List UInt8) (w:World):Calls Tryz.prog 58 #[.string ⟨(92 :: r).toArray⟩,.int .i64 8,.int .i64 8] w fun e w'=>e=.returned (.tuple #[.int .u64 0,.iface 155 (.int .i64 2)])∧Below w.heap.size w w':=by
 have e88:∀ args w,(callFunc 88 args).run Tryz.prog w=.ok (.enter 88 args) w:=fun args w=>dW (by kernel_rfl) args w
 have hne:(ByteArray.mk (92 :: r).toArray).toList.isEmpty=false:=by rw [ByteArray.toList_eq]; rfl
 go_enter Tryz.func58,Tryz.ntmps58
 go_wp2
 rw [Go.Lib.run_convert_string_bytes w 9 31 5 _ Tryz.underlying9 Tryz.underlying31 Tryz.underlying5]
 have hc:=Go.Lib.bytesWorld_cell w 5 ⟨(92 :: r).toArray⟩ 0 (by simp [ByteArray.size])
 have hsz:(ByteArray.mk (92 :: r).toArray).size=r.length+1:=by simp [ByteArray.size]
 rw [hsz]
 generalize hW:Go.Lib.bytesWorld w 5 ⟨(92 :: r).toArray⟩=W at *
 have hbel:Below w.heap.size w W:=by subst hW; exact ⟨rfl,rfl,rfl,by rw [Go.Lib.bytesWorld_size]; omega,fun b hb=>Go.Lib.bytesWorld_at_old w 5 _ b hb⟩
 have hc':W.cell? ⟨w.heap.size,0,none⟩=some (.int .u8 92):=by simpa using hc
 have hlen:(0:Int) < ((r.length+1:Nat):Int):=by omega
 go_wp2
 refine wp_loop_rounds 1 ?_
 rw [rounds_succ]
 go_wp2_with (go_at_call 88; refine (yJz _).mono ?_; rintro e w' ⟨rfl,rfl⟩)
 first | go_ret2 | go_ret
 exact ⟨rfl,hbel⟩
end Go.Dec
namespace Go.Dec
open Go.Proofs Go.RowKit Go.Ce
abbrev yL:List Ty:=[.int .u64,.int .i64]
abbrev yM:List Ty:=[.str]
abbrev nI:List Ty:=[.str,.int .i64]
abbrev nJ:List Ty:=[.str]
abbrev sI:List Ty:=[.str,.int .i64,.int .i64]
abbrev sJ:List Ty:=[.int .u64,.err]
theorem zSv (v:Int) (w:World) (h0:0 <= v) (h1:v < 256) (hG:Glob Tryz.prog w):Calls Tryz.prog 186 #[.slice none 0 0,.int .u64 v,.int .i64 8,.bool false,.bool false] w fun e w'=>e=.returned (.tuple #[.slice none 0 0,.string ⟨(zPx v.toNat).toArray⟩])∧Below w.heap.size w w':=by
 obtain ⟨n,rfl⟩:∃ n:Nat,v=n:=⟨v.toNat,by omega⟩
 unfold zPx
 by_cases c1:n < 8
 ·rw [if_pos (by simpa using c1)]
  exact zKw n w h0 (by omega) hG
 rw [if_neg (by simpa using c1)]
 by_cases c2:n < 64
 ·rw [if_pos (by simpa using c2)]
  have:=zKx n w (by omega) (by omega) hG
  rwa [show ((n:Int) / 8).toNat=(n:Int).toNat / 8 by omega,show ((n:Int) % 8).toNat=(n:Int).toNat % 8 by omega] at this
 rw [if_neg (by simpa using c2)]
 have:=zKy n w (by omega) (by omega) hG
 rwa [show ((n:Int) / 8 / 8).toNat=(n:Int).toNat / 8 / 8 by omega,show ((n:Int) / 8 % 8).toNat=(n:Int).toNat / 8 % 8 by omega,show ((n:Int) % 8).toNat=(n:Int).toNat % 8 by omega] at this
theorem zHt (v:Int) (w:World) (h0:0 <= v) (h1:v < 256) (hG:Glob Tryz.prog w):Calls Tryz.prog 131 #[.int .u64 v,.int .i64 8] w fun e w'=>e=.returned (.string ⟨(zPx v.toNat).toArray⟩)∧Below w.heap.size w w':=by
 have yUk:∀ args w,(callFunc 186 args).run Tryz.prog w=.ok (.enter 186 args) w:=fun args w=>dW (by kernel_rfl) args w
 go_enter Tryz.func131,Tryz.ntmps131
 go_wp2_with (go_at_call 186; refine (zSv v _ h0 h1 hG).mono ?_; rintro e w' ⟨rfl,hb⟩)
 go_ret
 exact ⟨rfl,hb⟩
theorem zSw (v:Int) (w:World) (h0:0 <= v) (h1:v < 256) (hG:Glob Tryz.prog w):Calls Tryz.prog 94 #[.int .u64 v,.int .i64 8] w fun e w'=>e=.returned (.string ⟨(zPx v.toNat).toArray⟩)∧Below w.heap.size w w':=by
 have e109:∀ args w,(callFunc 131 args).run Tryz.prog w=.ok (.enter 131 args) w:=fun args w=>dW (by kernel_rfl) args w
 go_enter Tryz.func94,Tryz.ntmps94
 go_wp2_with (go_at_call 131; refine (zHt v _ h0 h1 hG).mono ?_; rintro e w' ⟨rfl,hb⟩)
 go_ret
 exact ⟨rfl,hb⟩
theorem Ig (n:Nat):Pure Tryz.prog 94 yL yM (iL n):=by
 refine ⟨by kernel_rfl,fun x y hF w N vs hG _ hx=>?_⟩
 obtain ⟨v,b⟩:=x
 obtain ⟨hc,hy⟩:=fD hF
 obtain rfl:=Option.some.inj hy
 simp only [aF,decide_eq_true_eq,beq_iff_eq] at hc
 obtain ⟨rfl,h0,h1⟩:=hc
 obtain ⟨u,us,rfl,hv,u2,rfl,hb2⟩:=hx
 simp only [Ty.gG,Ty.isAgg,Bool.false_eq_true,if_false,Ty.Rel,aL,and_true] at hv hb2
 subst hv hb2
 refine (zSw v w h0 h1 hG).mono ?_
 rintro e w' ⟨rfl,hb⟩
 exact ⟨[_],rfl,hb.os,hb.tape,hb.output,zDz hb,_,rfl,by simp [Ty.gG,Ty.isAgg,Ty.Rel]⟩
theorem yQg:Qt Tryz.E 95 nI nJ 2000 [] (([48]:List UInt8),(0:Int))=some []:=by kernel_rfl
theorem yQh:Qt Tryz.E 95 nI nJ 2000 [] (([48]:List UInt8),(1:Int))=some [48]:=by kernel_rfl
theorem yQi:Qt Tryz.E 95 nI nJ 2000 [] (([48]:List UInt8),(2:Int))=some [48,48]:=by kernel_rfl
theorem Sv (n:Nat):Pure Tryz.prog 95 nI nJ (strings_Repeat n):=by
 refine sH Tryz.E_ok (by kernel_rfl) fun (x:List UInt8 × Int) y hxy bs hbs=>⟨2000,?_⟩
 obtain ⟨s,k⟩:=x
 obtain ⟨hc,hy⟩:=fD hxy
 obtain rfl:=Option.some.inj hy
 simp only [aF,decide_eq_true_eq,beq_iff_eq] at hc
 obtain ⟨rfl,h0,h1⟩:=hc
 have hb:bs=[]:=List.length_eq_zero_iff.1 hbs
 subst hb
 have:k=0∨k=1∨k=2:=by omega
 rcases this with rfl | rfl | rfl
 ·exact yQg
 ·exact yQh
 ·exact yQi
theorem zHu {w:World} (hG:Glob Tryz.prog w):∃ ev,w.cell? ⟨1,0,none⟩=some ev∧(ev=.nilIface∨∃ te pe,ev=.iface te pe) :=
 hG 1 (Tryz.prog.globals[1]'(by decide +kernel)) (by rw [Array.getElem?_eq_getElem]) .any (by kernel_rfl)
theorem ySy (r:List UInt8) (w:World) (hr:r.length <= 2) (hG:Glob Tryz.prog w):Calls Tryz.prog 35 #[.string ⟨(92 :: r).toArray⟩,.int .i64 8,.int .i64 8] w fun e w'=>∃ N,e=.returned (.tuple #[.int .u64 0,.iface 158 (.pointer (some ⟨N,0,none⟩))])∧Below w.heap.size w w':=by
 have e58:∀ args w,(callFunc 58 args).run Tryz.prog w=.ok (.enter 58 args) w:=fun args w=>dW (by kernel_rfl) args w
 have e59:∀ args w,(callFunc 59 args).run Tryz.prog w=.ok (.enter 59 args) w:=fun args w=>dW (by kernel_rfl) args w
 obtain ⟨ev,hev,ySz⟩:=zHu hG
 go_enter Tryz.func35,Tryz.ntmps35
 go_wp2_with (go_at_call 58; refine (ySx r _).mono ?_; rintro e w1 ⟨rfl,hb1⟩)
 have yTa:w1.cell? ⟨1,0,none⟩=some ev:=(World.cell?_of_block (a:=⟨1,0,none⟩) (hb1.block 1 (by
  rcases bI 1 w.heap.size with h | h
  ·exact h
  ·simp [World.cell?,Array.getElem?_eq_none h] at hev))).trans hev
 go_wp2_with (go_at_call 59; refine (Tryz.strconv_toError_syntax _ _ 8 8 ev _ (by simp [ByteArray.size]; omega) yTa ySz).mono ?_; rintro e w2 ⟨N,rfl,hN,hc,hb2⟩)
 first | go_ret2 | go_ret
 exact ⟨N,rfl,hb2.os.trans hb1.os,hb2.tape.trans hb1.tape,hb2.output.trans hb1.output,Nat.le_trans hb1.size hb2.size,fun b hb=>(hb2.block b (Nat.lt_of_lt_of_le hb hb1.size)).trans (hb1.block b hb)⟩
theorem Zh {s:List UInt8} {y:Int × Bool} (h:Vl s=some y):(∃ r,s=92 :: r∧r.length <= 2∧y=(0,true))∨∃ v,v < 256∧s=zHs v∧y=((v:Int),false):=by
 match s with
 | []=>cases h
 | a :: r =>
  unfold Vl at h
  simp only at h
  by_cases ha:a=92
  ·subst ha
   rw [show br ((92:UInt8) == 92) _ _=_ from rfl] at h
   obtain ⟨h1,h2⟩:=fD h
   exact .inl ⟨r,rfl,of_decide_eq_true h1,(Option.some.inj h2).symm⟩
  ·have hb:(a == 92)=false:=by simpa using ha
   rw [hb] at h
   simp only [br] at h
   match r,h with
   | [b,c],h =>
    simp only at h
    obtain ⟨h1,h2⟩:=fD h
    simp only [aF,decide_eq_true_eq] at h1
    obtain ⟨⟨a1,a2⟩,⟨b1,b2⟩,c1,c2⟩:=h1
    refine .inr ⟨(a.toNat - 48) * 64+(b.toNat - 48) * 8+(c.toNat - 48),by omega,?_,?_⟩
    ·unfold zHs
     have e1:((a.toNat - 48) * 64+(b.toNat - 48) * 8+(c.toNat - 48)) / 64=a.toNat - 48:=by omega
     have e2:((a.toNat - 48) * 64+(b.toNat - 48) * 8+(c.toNat - 48)) / 8 % 8=b.toNat - 48:=by omega
     have e3:((a.toNat - 48) * 64+(b.toNat - 48) * 8+(c.toNat - 48)) % 8=c.toNat - 48:=by omega
     rw [e1,e2,e3,show 48+(a.toNat - 48)=a.toNat by omega,show 48+(b.toNat - 48)=b.toNat by omega,show 48+(c.toNat - 48)=c.toNat by omega]
     simp
    ·rw [<- Option.some.inj h2]
     simp only [aB,and_true]
     omega
   | [],h=>cases h
   | [_],h=>cases h
   | _ :: _ :: _ :: _,h=>cases h
section
open Classical
noncomputable def puD (n:Nat) (x:List UInt8 × Int × Int):Option (Int × Bool):=if ∃ v,v < 256∧x=(zHs v,8,8) then fP n x else none
end
theorem Sw (n:Nat):Pure Tryz.prog 35 sI sJ (puD n):=by
 refine sH Tryz.E_ok (by kernel_rfl) fun (x:List UInt8 × Int × Int) y hxy bs hbs=>⟨2000,?_⟩
 unfold puD at hxy
 split at hxy
 ·rename_i hv
  obtain ⟨v,hv,rfl⟩:=hv
  obtain ⟨_,hy⟩:=fD hxy
  have hb:bs=[]:=List.length_eq_zero_iff.1 hbs
  subst hb
  rcases Zh hy with ⟨r,e,_,_⟩ | ⟨v2,hv2,e,rfl⟩
  ·exfalso
   simp only [zHs,aL] at e
   have:∀ v,v < 256->UInt8.ofNat (48+v / 64) ≠ 92:=by decide +kernel
   exact this v hv e.1
  ·simp only at e
   rw [e]
   exact yNo v2 hv2
 ·cases hxy
theorem Kv (n:Nat):Pure Tryz.prog 35 sI sJ (fP n):=by
 refine ⟨by kernel_rfl,fun x y hF w N vs hG hN hx=>?_⟩
 obtain ⟨s,b,c⟩:=x
 obtain ⟨hc,hy⟩:=fD hF
 simp only [aF,beq_iff_eq] at hc
 obtain ⟨rfl,rfl⟩:=hc
 rcases Zh hy with ⟨r,rfl,hr,rfl⟩ | ⟨v,hv,rfl,rfl⟩
 ·obtain ⟨u,us,rfl,h1,u2,us2,rfl,h2,u3,rfl,h3⟩:=hx
  simp only [Ty.gG,Ty.isAgg,Bool.false_eq_true,if_false,Ty.Rel,aL,and_true] at h1 h2 h3
  subst h1 h2 h3
  refine (ySy r w hr hG).mono ?_
  rintro e w' ⟨M,rfl,hb⟩
  refine ⟨[_,_],rfl,hb.os,hb.tape,hb.output,zDz hb,_,_,rfl,?_,_,rfl,?_⟩ <;> simp [Ty.gG,Ty.isAgg,Ty.Rel]
 ·exact (Sw n).2 (zHs v,8,8) _ (by unfold puD; rw [if_pos ⟨v,hv,rfl⟩]; exact hF) w N vs hG hN hx
end Go.Dec
