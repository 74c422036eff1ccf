/- Part of a proof over this seat: a library of my own, and what it says of this seat. No statement is proved here. -/
import Derived.Test.YtdgneppobefaoaaGreatDoorPartBM
import Derived.WalkKit
import Derived.WalkSmall
import Derived.Laws.BytesArg
import Derived.RangeFuncRecord
import Derived.LoopN
namespace Go.Dec
open Go.Proofs Go.RowKit Go.Sort Go.Lib
theorem zAl (w:World):Calls Tryz.prog 227 #[.int .i64 8] w fun e w'=>e=.returned (.bool true)∧w'=w:=by
 go_enter Tryz.func227,Tryz.ntmps227
 go_wp2
 go_ret
 exact ⟨by rw [show (bits BinOp.and IntKind.i64 8 7 == 0)=true from by decide +kernel]; rfl,rfl⟩
theorem zHl {w:World} (hG:Glob Tryz.prog w) (i:Nat) (hi:i < 64):w.cell? ⟨5,i,none⟩=some (.int .u8 (jV.getD i 0)):=by
 obtain ⟨a,b,h⟩:=hG 5 (Tryz.prog.globals[5]'(by decide +kernel)) (by rw [Array.getElem?_eq_getElem]) (.tab .u8 jV) (by kernel_rfl)
 have hl:i < jV.length:=by rw [show jV.length=64 from rfl]; exact hi
 simp [World.cell?,h,hl]
def tzI (x:Int):Int:=IntKind.u64.wrap (bits BinOp.and IntKind.u64 x (IntKind.u64.wrap (-x)) * 285870213051353865) / 288230376151711744
theorem zHm (x:Int) (j:Nat) (w:World) (hx:x ≠ 0) (hj:tzI x=j) (zHn:j < 64) (hG:Glob Tryz.prog w):Calls Tryz.prog 298 #[.int .u64 x] w fun e w'=>e=.returned (.int .i64 (jV.getD j 0))∧w'=w:=by
 have hr:0 <= tzI x∧tzI x < 64:=by rw [hj]; omega
 have hc:w.cell? ⟨5,(tzI x).toNat,none⟩=some (.int .u8 (jV.getD j 0)):=by rw [hj]; exact zHl hG j zHn
 unfold tzI at hr hc
 have hx0:(x == 0)=false:=by simpa using hx
 have hb:wrap64 (jV[j]?.getD 0)=jV.getD j 0:=by
  have:∀ j,j < 64->wrap64 (jV[j]?.getD 0)=jV.getD j 0:=by decide +kernel
  exact this j zHn
 go_enter Tryz.func298,Tryz.ntmps298
 go_wp2
 go_ret
 refine ⟨?_,rfl⟩
 show Ending.returned (.int .i64 (wrap64 (jV[j]?.getD 0)))=_
 rw [hb]
theorem Lf (x:Int) (j:Nat) (w:World) (hx:x ≠ 0) (hj:tzI x=j) (zHn:j < 64) (hG:Glob Tryz.prog w):Calls Tryz.prog 228 #[.int .u64 x] w fun e w'=>e=.returned (.int .i64 (jV.getD j 0))∧w'=w:=by
 go_enter Tryz.func228,Tryz.ntmps228
 go_wp2_with (go_at_call 298; refine (zHm x j _ hx hj zHn hG).mono ?_; rintro e w' ⟨rfl,rfl⟩)
 go_ret
 exact ⟨rfl,rfl⟩
end Go.Dec
namespace Go.Dec
open Go.Proofs Go.RowKit Go.Sort Go.Lib
theorem zL (v:Nat) (h:v < 8):((#[48,49,50,51,52,53,54,55,56,57,97,98,99,100,101,102,103,104,105,106,107,108,109,110,111,112,113,114,115,116,117,118,119,120,121,122]:Array UInt8)[v]?).getD 0=UInt8.ofNat (48+v):=by
 have:∀ v,v < 8->((#[48,49,50,51,52,53,54,55,56,57,97,98,99,100,101,102,103,104,105,106,107,108,109,110,111,112,113,114,115,116,117,118,119,120,121,122]:Array UInt8)[v]?).getD 0=UInt8.ofNat (48+v):=by decide +kernel
 exact this v h
theorem and7 (v:Int) (h0:0 <= v) (h1:v < 256):bits BinOp.and IntKind.u64 v 7=v % 8:=by
 have:∀ v:Nat,v < 256->bits BinOp.and IntKind.u64 (v:Int) 7=(v:Int) % 8:=by decide +kernel
 have:=this v.toNat (by omega)
 rwa [Int.toNat_of_nonneg h0] at this
theorem zNd (v:Int):v / 2 ^ min (IntKind.u64.wrap (jV[7]?.getD 0)).toNat 64=v / 8:=by
 rw [show (IntKind.u64.wrap (jV[7]?.getD 0)).toNat=3 by decide +kernel]
 rfl
theorem zHo {W:World} {N o n:Nat} {l:List UInt8} (hn:l.length=n) (hc:∀ i (h:i < l.length),W.cell? ⟨N,o+i,none⟩=some (.int .u8 (l[i].toNat:Int))):(convert 31 9 (.slice (some ⟨N,o,none⟩) n n)).run Tryz.prog W=.ok (.string ⟨l.toArray⟩) W:=by
 subst hn
 have h:=run_convert_bytes_arg (P:=Tryz.prog) W 31 5 Tryz.underlying31 Tryz.underlying5 N o l.length l.length (l.map fun b=>(b.toNat:Int)) (by simp) (fun i hi=>by
  have e:(l.map fun b=>(b.toNat:Int)).getD i 0=(l[i].toNat:Int):=by simp [List.getD_eq_getElem?_getD,hi]
  rw [e]
  exact hc i hi) 9 Tryz.underlying9
 rw [h]
 have e:(l.map fun b=>(b.toNat:Int)).map (fun n=>UInt8.ofNat n.toNat)=l:=by
  rw [List.map_map]
  have:((fun n:Int=>UInt8.ofNat n.toNat) ∘ fun b:UInt8=>(b.toNat:Int))=id:=by funext b; simp
  rw [this,List.map_id]
 unfold strOfNums
 rw [e]
set_option maxRecDepth 100000 in
set_option maxHeartbeats 2000000 in
theorem Vi (v:Int) (w:World) (h0:0 <= v) (h1:v < 8) (hG:Glob Tryz.prog w):Calls Tryz.prog 186 #[.slice none 0 0,.int .u64 v,.int .i64 8,.bool false,.bool false] w fun e w'=>e=.returned (.tuple #[.slice none 0 0,.string ⟨([UInt8.ofNat (48+v.toNat)]:List UInt8).toArray⟩])∧Below w.heap.size w w':=by
 have zRz:∀ args w,(callFunc 227 args).run Tryz.prog w=.ok (.enter 227 args) w:=fun args w=>dX (by kernel_rfl) args w
 have zSa:∀ args w,(callFunc 228 args).run Tryz.prog w=.ok (.enter 228 args) w:=fun args w=>dX (by kernel_rfl) args w
 go_enter Tryz.func186,Tryz.ntmps186
 go_wp2_with (go_at_call 227; refine (zAl _).mono ?_; rintro e w' ⟨rfl,rfl⟩)
 go_wp2_with (go_at_call 228; refine (Lf 8 7 _ (by decide) (by decide +kernel) (by decide) (hG.keep fun b hb=>Below.heap_alloc _ _ b hb)).mono ?_; rintro e w' ⟨rfl,rfl⟩)
 have g1:¬ 8 <= v:=by omega
 have g2:v < 36:=by omega
 refine wp_loop_rounds 1 ?_
 rw [rounds_succ]
 go_wp2
 have hz:Tryz.zeroCells313.size=65:=by kernel_rfl
 have x0:=zL v.toNat (by omega)
 rw [Array.getElem?_eq_getElem (by simp; omega),Option.getD_some] at x0
 rw [zHo (n:=1) (o:=64) (l:=[UInt8.ofNat (48+v.toNat)]) rfl (by
  intro i hi
  unfold World.cell?
  rw [World.alloc_heap_new]
  match i,hi with
  | 0,_ =>
   simp only [Array.getElem?_setIfInBounds,Array.size_setIfInBounds,hz,Nat.add_zero,List.getElem_cons_zero,List.getElem_cons_succ,Nat.reduceAdd,Nat.reduceEqDiff,if_true,if_false,Nat.reduceLT]
   rw [<- x0]
   rfl)]
 go_wp2
 first | go_ret2 | go_ret
 exact ⟨rfl,⟨rfl,rfl,rfl,by simp,fun b hb=>Below.heap_alloc _ _ b hb⟩⟩
set_option maxRecDepth 100000 in
set_option maxHeartbeats 2000000 in
theorem Vj (v:Int) (w:World) (h0:8 <= v) (h1:v < 64) (hG:Glob Tryz.prog w):Calls Tryz.prog 186 #[.slice none 0 0,.int .u64 v,.int .i64 8,.bool false,.bool false] w fun e w'=>e=.returned (.tuple #[.slice none 0 0,.string ⟨([UInt8.ofNat (48+(v / 8).toNat),UInt8.ofNat (48+(v % 8).toNat)]:List UInt8).toArray⟩])∧Below w.heap.size w w':=by
 have zRz:∀ args w,(callFunc 227 args).run Tryz.prog w=.ok (.enter 227 args) w:=fun args w=>dX (by kernel_rfl) args w
 have zSa:∀ args w,(callFunc 228 args).run Tryz.prog w=.ok (.enter 228 args) w:=fun args w=>dX (by kernel_rfl) args w
 go_enter Tryz.func186,Tryz.ntmps186
 go_wp2_with (go_at_call 227; refine (zAl _).mono ?_; rintro e w' ⟨rfl,rfl⟩)
 go_wp2_with (go_at_call 228; refine (Lf 8 7 _ (by decide) (by decide +kernel) (by decide) (hG.keep fun b hb=>Below.heap_alloc _ _ b hb)).mono ?_; rintro e w' ⟨rfl,rfl⟩)
 have g1:8 <= v:=by omega
 have g3:¬ 8 <= v / 8:=by omega
 have g4:0 <= v / 8:=by omega
 have g5:v / 8 < 36:=by omega
 have a1:=and7 v (by omega) (by omega)
 have b1:0 <= v % 8:=by omega
 have b2:v % 8 < 36:=by omega
 refine wp_loop_rounds 2 ?_
 rw [rounds_succ]
 go_wp2
 rw [zNd]
 rw [rounds_succ]
 go_wp2
 have hz:Tryz.zeroCells313.size=65:=by kernel_rfl
 have x0:=zL (v / 8).toNat (by omega)
 rw [Array.getElem?_eq_getElem (by simp; omega),Option.getD_some] at x0
 have x1:=zL (v % 8).toNat (by omega)
 rw [Array.getElem?_eq_getElem (by simp; omega),Option.getD_some] at x1
 rw [zHo (n:=2) (o:=63) (l:=[UInt8.ofNat (48+(v / 8).toNat),UInt8.ofNat (48+(v % 8).toNat)]) rfl (by
  intro i hi
  unfold World.cell?
  rw [World.alloc_heap_new]
  match i,hi with
  | 0,_ =>
   simp only [Array.getElem?_setIfInBounds,Array.size_setIfInBounds,hz,Nat.add_zero,List.getElem_cons_zero,List.getElem_cons_succ,Nat.reduceAdd,Nat.reduceEqDiff,if_true,if_false,Nat.reduceLT]
   rw [<- x0]
   rfl
  | 1,_ =>
   simp only [Array.getElem?_setIfInBounds,Array.size_setIfInBounds,hz,Nat.add_zero,List.getElem_cons_zero,List.getElem_cons_succ,Nat.reduceAdd,Nat.reduceEqDiff,if_true,if_false,Nat.reduceLT]
   rw [<- x1]
   rfl)]
 go_wp2
 first | go_ret2 | go_ret
 exact ⟨rfl,⟨rfl,rfl,rfl,by simp,fun b hb=>Below.heap_alloc _ _ b hb⟩⟩
set_option maxRecDepth 100000 in
set_option maxHeartbeats 2000000 in
theorem Vk (v:Int) (w:World) (h0:64 <= v) (h1:v < 256) (hG:Glob Tryz.prog w):Calls Tryz.prog 186 #[.slice none 0 0,.int .u64 v,.int .i64 8,.bool false,.bool false] w fun e w'=>e=.returned (.tuple #[.slice none 0 0,.string ⟨([UInt8.ofNat (48+(v / 8 / 8).toNat),UInt8.ofNat (48+(v / 8 % 8).toNat),UInt8.ofNat (48+(v % 8).toNat)]:List UInt8).toArray⟩])∧Below w.heap.size w w':=by
 have zRz:∀ args w,(callFunc 227 args).run Tryz.prog w=.ok (.enter 227 args) w:=fun args w=>dX (by kernel_rfl) args w
 have zSa:∀ args w,(callFunc 228 args).run Tryz.prog w=.ok (.enter 228 args) w:=fun args w=>dX (by kernel_rfl) args w
 go_enter Tryz.func186,Tryz.ntmps186
 go_wp2_with (go_at_call 227; refine (zAl _).mono ?_; rintro e w' ⟨rfl,rfl⟩)
 go_wp2_with (go_at_call 228; refine (Lf 8 7 _ (by decide) (by decide +kernel) (by decide) (hG.keep fun b hb=>Below.heap_alloc _ _ b hb)).mono ?_; rintro e w' ⟨rfl,rfl⟩)
 have g1:8 <= v:=by omega
 have g2:8 <= v / 8:=by omega
 have g3:¬ 8 <= v / 8 / 8:=by omega
 have g4:0 <= v / 8 / 8:=by omega
 have g5:v / 8 / 8 < 36:=by omega
 have a1:=and7 v (by omega) (by omega)
 have a2:=and7 (v / 8) (by omega) (by omega)
 have b1:0 <= v % 8:=by omega
 have b2:v % 8 < 36:=by omega
 have b3:0 <= v / 8 % 8:=by omega
 have b4:v / 8 % 8 < 36:=by omega
 refine wp_loop_rounds 3 ?_
 rw [rounds_succ]
 go_wp2
 rw [zNd]
 rw [rounds_succ]
 go_wp2
 rw [zNd]
 rw [rounds_succ]
 go_wp2
 have hz:Tryz.zeroCells313.size=65:=by kernel_rfl
 have x0:=zL (v / 8 / 8).toNat (by omega)
 rw [Array.getElem?_eq_getElem (by simp; omega),Option.getD_some] at x0
 have x1:=zL (v / 8 % 8).toNat (by omega)
 rw [Array.getElem?_eq_getElem (by simp; omega),Option.getD_some] at x1
 have x2:=zL (v % 8).toNat (by omega)
 rw [Array.getElem?_eq_getElem (by simp; omega),Option.getD_some] at x2
 rw [zHo (n:=3) (o:=62) (l:=[UInt8.ofNat (48+(v / 8 / 8).toNat),UInt8.ofNat (48+(v / 8 % 8).toNat),UInt8.ofNat (48+(v % 8).toNat)]) rfl (by
  intro i hi
  unfold World.cell?
  rw [World.alloc_heap_new]
  match i,hi with
  | 0,_ =>
   simp only [Array.getElem?_setIfInBounds,Array.size_setIfInBounds,hz,Nat.add_zero,List.getElem_cons_zero,List.getElem_cons_succ,Nat.reduceAdd,Nat.reduceEqDiff,if_true,if_false,Nat.reduceLT]
   rw [<- x0]
   rfl
  | 1,_ =>
   simp only [Array.getElem?_setIfInBounds,Array.size_setIfInBounds,hz,Nat.add_zero,List.getElem_cons_zero,List.getElem_cons_succ,Nat.reduceAdd,Nat.reduceEqDiff,if_true,if_false,Nat.reduceLT]
   rw [<- x1]
   rfl
  | 2,_ =>
   simp only [Array.getElem?_setIfInBounds,Array.size_setIfInBounds,hz,Nat.add_zero,List.getElem_cons_zero,List.getElem_cons_succ,Nat.reduceAdd,Nat.reduceEqDiff,if_true,if_false,Nat.reduceLT]
   rw [<- x2]
   rfl)]
 go_wp2
 first | go_ret2 | go_ret
 exact ⟨rfl,⟨rfl,rfl,rfl,by simp,fun b hb=>Below.heap_alloc _ _ b hb⟩⟩
end Go.Dec
