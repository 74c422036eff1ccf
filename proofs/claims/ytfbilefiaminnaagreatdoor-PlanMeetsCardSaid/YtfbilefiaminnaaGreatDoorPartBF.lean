/- Part of a proof over this seat: a library of my own, and what it says of this seat. No statement is proved here. -/
import Derived.Test.YtfbilefiaminnaaGreatDoorProg
import Derived.Test.YtfbilefiaminnaaGreatDoorPartAK
import Derived.Test.YtfbilefiaminnaaGreatDoorPartAP
import Derived.Maps.RangeRun
import Derived.Lib.ConvBytes
import Derived.Lib.SmallJoins
import Derived.WalkKit
import Derived.WalkSmall
import Derived.Deep.LoopGhost
import Derived.KernelRfl
import Derived.Test.YtfbilefiaminnaaGreatDoorPartAT
import Derived.Test.YtfbilefiaminnaaGreatDoorPartBA
import Derived.Test.YtfbilefiaminnaaGreatDoorPartBC
import Derived.Test.YtfbilefiaminnaaGreatDoorPartBE
namespace Go.Dec
open Go.Proofs Go.RowKit
open Go.ChangeMaps (setBlock)
set_option maxRecDepth 100000
structure Upd (b:Nat) (w w':World):Prop where
 os:w'.os=w.os
 tape:w'.tape=w.tape
 output:w'.output=w.output
 size:w'.heap.size=w.heap.size
 block:∀ k,k≠b->w'.heap[k]?=w.heap[k]?
theorem Upd.below{b:Nat}{w0 w w':World}{B:Nat}(h:Upd b w w')(hb:B<=b)(h0:Below B w0 w):Below B w0 w' :=
 ⟨h.os.trans h0.os,h.tape.trans h0.tape,h.output.trans h0.output,by rw[h.size];exact h0.size,λk hk=>(h.block k (by omega)).trans (h0.block k hk)⟩
theorem zI{w:World}{t kt et:TypeId}{d:TypeDesc}{b:Nat}{es:Array MapEntry}{n:Nat}{tab:List (MK × Nat)}{x:MK}{f:Nat}(hu:Tryz.prog.underlying t=some (.map kt et))(hd:Tryz.prog.underlying kt=some d)(hb:w.heap[b]?=some (.map es n))(hF:Cv tab es.toList)(hk:tO (TK.of d) tab=true)(hx:Ir (TK.of d) x=true)(hn:memT tab x=false):∃ w',(Instr.mapUpdate t (.map (some b)) x.v (.func (.func f) #[] #[])).run Tryz.prog w=.ok () w'/\w'.heap[b]?=some (.map (es.push ⟨x.v,.func (.func f) #[] #[],n⟩) (n+1))/\Upd b w w' /\
  Cv (tab++[(x,f)]) (es.push ⟨x.v,.func (.func f) #[] #[],n⟩).toList/\tO (TK.of d) (tab++[(x,f)])=true:=by
 have hnone:kP tab x=none:=by
  have:=Yr tab x;rw[hn]at this;cases hq:kP tab x with
  |none=>rfl
  |some q=>rw[hq]at this;simp at this
 obtain⟨r,hr,hr2⟩:=Zp hx hk hF;rw[hnone]at hr2;subst hr2;have hlt:b<w.heap.size:=(Array.getElem?_eq_some_iff.1 hb).1;have hu1:(underlying t).run Tryz.prog w=.ok (.map kt et) w:=by simp[underlying,hu]
 have hu2:(underlying kt).run Tryz.prog w=.ok d w:=by simp[underlying,hd]
 have hget:(getObj b).run Tryz.prog w=.ok (.map es n) w:=by simp[getObj,Sem.run,hb]
 have hset:∀ o,(setObj b o).run Tryz.prog w=.ok () { w with heap:=w.heap.setIfInBounds b o }:=by intro o;simp[setObj,Sem.run,hb]
 have hck:=Vp (w:=w) (b:=false) (n:=9999) hd hx;refine⟨_,?_,zGt (ms:=es.push ⟨x.v,.func (.func f) #[] #[],n⟩) (n:=n+1) hlt,⟨rfl,rfl,rfl,by simp[World.mX],λk hk=>by simp only[World.mX];rw[Array.getElem?_setIfInBounds_ne (Ne.symm hk)]⟩,⟨λe he=>?_,λq hq=>?_⟩,?_⟩
 ·simp only[Instr.mapUpdate,Sem.run_bind,hu1,Result.andThen_ok,hget,hck,Instr.findKey,hu2,hr,Sem.run_pure,hset,World.mX]
 ·rw[Array.toList_push]at he;rcases List.mem_append.1 he with he|he
  ·obtain⟨x',f',g1,g2,g3⟩:=hF.1 e he;exact⟨x',f',g1,g2,zUm g3⟩
  ·obtain rfl:=List.mem_singleton.1 he;exact⟨x,f,rfl,rfl,zUn hnone⟩
 ·rw[Array.toList_push];rcases List.mem_append.1 hq with hq|hq
  ·obtain⟨e,he,g⟩:=hF.2 q hq;exact⟨e,List.mem_append_left _ he,g⟩
  ·obtain rfl:=List.mem_singleton.1 hq;exact⟨_,List.mem_append_right _ (List.mem_singleton.2 rfl),rfl⟩
 ·rw[zDf]at hk ⊢;intro q hq;rcases List.mem_append.1 hq with hq|hq
  ·exact hk q hq
  ·obtain rfl:=List.mem_singleton.1 hq;exact hx
def Oi:List (MK×Nat):=[(.i .u8 123,71),(.i .u8 125,72),(.i .u8 58,73),(.i .u8 115,74),(.i .u8 121,75),(.i .u8 61,76),(.i .u8 100,76),(.i .u8 68,76),(.i .u8 103,76),(.i .u8 71,76),(.i .u8 104,76),(.i .u8 72,76),(.i .u8 110,76),(.i .u8 78,76),(.i .u8 112,76),(.i .u8 80,76),(.i .u8 120,76),(.i .u8 97,77),(.i .u8 105,77),(.i .u8 99,77),(.i .u8 98,78),(.i .u8 116,78),(.i .u8 84,78),(.i .u8 108,79),(.i .u8 113,79),(.i .u8 81,79),(.i .u8 114,80),(.i .u8 119,80)]
def yGs:List (List UInt8×Nat):=[([61,100,68,103,71,104,72,110,78,112,80,120],76),([97,105,99],77),([98,116,84],78),([108,113,81],79),([114,119],80)]
def bases:List (MK×Nat):=[(.i .u8 123,71),(.i .u8 125,72),(.i .u8 58,73),(.i .u8 115,74),(.i .u8 121,75)]
def kv (s:List UInt8) (f:Nat):List (MK×Nat):=s.map fun b=>(.i .u8 (b.toNat:Int),f)
def ents:Array MapEntry := #[⟨.string ⟨#[61,100,68,103,71,104,72,110,78,112,80,120]⟩,.func (.func 76) #[] #[],0⟩,⟨.string ⟨#[97,105,99]⟩,.func (.func 77) #[] #[],1⟩,⟨.string ⟨#[98,116,84]⟩,.func (.func 78) #[] #[],2⟩,⟨.string ⟨#[108,113,81]⟩,.func (.func 79) #[] #[],3⟩,⟨.string ⟨#[114,119]⟩,.func (.func 80) #[] #[],4⟩]
def vZ(seen:List Nat):List (MK × Nat):=bases++seen.flatMap λi=>match yGs[i]? with|some p=>kv p.1 p.2|none=>[]
theorem zNt(a b:List (MK × Nat))(x:MK):memT (a++b) x=(memT a x||memT b x):=by
 induction a with
 |nil=>rfl
 |cons p r ih=>obtain⟨k,f⟩:=p;simp only[List.cons_append,memT,ih,Bool.or_assoc]
theorem zVl(x:MK)(g:Nat->List (MK × Nat)):∀ l:List Nat,(∀ i∈l,memT (g i) x=false)->memT (l.flatMap g) x=false
 |[],_=>rfl
 |i::l,h=>by rw[List.flatMap_cons,zNt,h i (.head _),zVl x g l λk hk=>h k (.tail _ hk)];rfl
def Ae(i:Nat):List (MK × Nat):=match yGs[i]? with|some p=>kv p.1 p.2|none=>[]
theorem yOb:((List.range 5).all λi=>(List.range 12).all λj=>match (Ae i)[j]? with
 |some q=>!memT bases q.1&&(!memT ((Ae i).take j) q.1&&(List.range 5).all λk=>k==i||!memT (Ae k) q.1)
 |none=>true)=true:=by decide +kernel
theorem zEh{i:Nat}(h:5<=i):Ae i=[]:=by
 unfold Ae;rw[List.getElem?_eq_none (by exact h)]
theorem yBx:∀ i,(Ae i).length<=12
 |0|1|2|3|4=>by decide
 |n+5=>by rw[zEh (by omega)];exact Nat.zero_le _
theorem fresh{seen:List Nat}{i j:Nat}{q:MK × Nat}(hi:i∉seen)(hq:(Ae i)[j]?=some q):memT (vZ seen++(Ae i).take j) q.1=false:=by
 have hlt:j<(Ae i).length:=(bE.1 hq).1;have h5:i<5:=by
  rcases jB i 5 with h|h
  ·exact h
  ·rw[zEh h]at hlt;exact absurd hlt (Nat.not_lt_zero _)
 have h:=yOb;rw[List.all_eq_true]at h;have h:=h i (List.mem_range.2 h5);rw[List.all_eq_true]at h;have h:=h j (List.mem_range.2 (Nat.lt_of_lt_of_le hlt (yBx i)));rw[hq]at h;simp only[aD,Bool.not_eq_true',List.all_eq_true,List.mem_range,Bool.or_eq_true,beq_iff_eq]at h;obtain⟨h1,h2,h3⟩:=h;unfold vZ;rw[zNt,zNt,h1,h2];have:memT (seen.flatMap Ae) q.1=false:=zVl _ _ _ λk hk=>by
  rcases jB k 5 with h|h
  ·rcases h3 k h with e|e
   ·subst e;exact absurd hk hi
   ·exact e
  ·rw[zEh h];rfl
 show(false||memT (seen.flatMap Ae) q.1||false)=false;rw[this];rfl
theorem yOc:((bases++(List.range 5).flatMap Ae).all λq=>decide (kP Oi q.1=some q.2))=true:=by decide +kernel
theorem ySr:(Oi.all λq=>decide (q∈bases)||(List.range 5).any λi=>decide (q∈Ae i))=true:=by decide +kernel
theorem xAk{seen:List Nat}{es:List MapEntry}(hall:∀ i,i<5->i∈seen)(h:Cv (vZ seen) es):Cv Oi es:=by
 refine⟨λe he=>?_,λq hq=>?_⟩
 ·obtain⟨x,f,h1,h2,h3⟩:=h.1 e he;refine⟨x,f,h1,h2,?_⟩;have hm:=Yt h3;have hs:=yOc;rw[List.all_eq_true]at hs;have:(x,f)∈bases++(List.range 5).flatMap Ae:=by
   rcases List.mem_append.1 hm with hm|hm
   ·exact List.mem_append_left _ hm
   ·obtain⟨i,hi,hm⟩:=List.mem_flatMap.1 hm;refine List.mem_append_right _ (List.mem_flatMap.2 ⟨i,List.mem_range.2 ?_,hm⟩);rcases jB i 5 with h|h
    ·exact h
    ·have:(x,f)∈Ae i:=hm;rw[zEh h]at this;cases this
  exact of_decide_eq_true (hs _ this)
 ·have hf:=ySr;rw[List.all_eq_true]at hf;have:=hf q hq;rw[Bool.or_eq_true,List.any_eq_true]at this;rcases this with this|⟨i,hi,this⟩
  ·exact h.2 q (List.mem_append_left _ (of_decide_eq_true this))
  ·exact h.2 q (List.mem_append_right _ (List.mem_flatMap.2 ⟨i,hall i (List.mem_range.1 hi),of_decide_eq_true this⟩))
theorem yXa{es:Array MapEntry}{seen:Array Nat}{e:MapEntry}(he:e∈(leftOf es seen).toList):(leftOf es (seen.push e.born)).size<(leftOf es seen).size:=by
 have hz:∀ s:Array Nat,(leftOf es s).size=(es.toList.filter λx=>!s.contains x.born).length:=λs=>by unfold leftOf;rw[<- Array.length_toList,Array.toList_filter]
 have he:e∈es.toList.filter λx=>!seen.contains x.born:=by unfold leftOf at he;rwa [Array.toList_filter]at he
 rw[hz,hz];generalize es.toList=l at he ⊢;have hs:∀ x:MapEntry,(!(seen.push e.born).contains x.born)=(!seen.contains x.born&&!(x.born==e.born)):=λx=>by
  simp only[Array.contains_push,Bool.not_or]
 simp only[hs];have:List.filter (λx=>!seen.contains x.born&&!(x.born==e.born)) l=(List.filter (λx=>!seen.contains x.born) l).filter λx=>!(x.born==e.born):=by
  rw[List.filter_filter];exact congrArg (λp=>List.filter p l) (funext λx=>Bool.and_comm _ _)
 rw[this];exact List.length_filter_lt_length_iff_exists.2 ⟨e,he,by simp⟩
theorem yOd{seen:Array Nat}(h:(leftOf ents seen).size=0):∀ i,i<5->i∈seen.toList:=by
 intro i hi;have h0:leftOf ents seen=#[]:=Array.eq_empty_of_size_eq_zero h;unfold leftOf at h0;rw[Array.filter_eq_empty_iff]at h0;have hz:i<ents.size:=hi;have:∃ e∈ents,e.born=i:=⟨ents[i]'hz,Array.getElem_mem hz,by
  match i,hi with
  |0,_|1,_|2,_|3,_|4,_=>rfl⟩
 obtain⟨e,he,rfl⟩:=this;simpa using h0 e he
theorem xAl{seen:Array Nat}{e:MapEntry}(he:e∈(leftOf ents seen).toList):e.born∉seen.toList/\e∈ents.toList/\∃ s f,e.key=.string ⟨s.toArray⟩/\e.val=.func (.func f) #[] #[]/\Ae e.born=kv s f:=by
 unfold leftOf at he;simp only[Array.toList_filter,List.mem_filter]at he;refine⟨by simpa using he.2,he.1,?_⟩;have:=he.1;simp only[ents,List.mem_cons,List.not_mem_nil,or_false]at this;rcases this with rfl|rfl|rfl|rfl|rfl<;>exact⟨_,_,rfl,rfl,rfl⟩
theorem zEi(w:World)(o:Obj):(w.alloc o).heap.size=w.heap.size+1:=Array.size_push _
theorem yOe(w:World)(t:TypeId):(Instr.makeMap t none).run Tryz.prog w=.ok (.map (some w.heap.size)) (w.alloc (.map #[] 0)):=by
 simp only[Instr.makeMap,Option.map_none,Sem.run_bind,run_newObj,Result.andThen_ok,Sem.run_pure];rfl
set_option maxHeartbeats 8000000 in
theorem yLb(w:World):Calls Tryz.prog 48 #[] w λe w'=>∃ b es n,e=.returned (.map (some b))/\w'.heap[b]?=some (.map es n)/\Cv Oi es.toList/\w.heap.size=b/\Below w.heap.size w w':=by
 have m0:=yOe w 113;have B0:Below w.heap.size w (w.alloc (.map #[] 0)):=(Below.refl _ _).alloc (aP _) _;have b0:(w.alloc (.map #[] 0)).heap[w.heap.size]?=some (.map #[] 0):=heap_alloc_new w _;have z0:(w.alloc (.map #[] 0)).heap.size=w.heap.size+1:=zEi _ _;generalize w.alloc (.map #[] 0)=w0 at m0 B0 b0 z0;have ut:Tryz.prog.underlying 113=some (.map 5 147):=by kernel_rfl
 have uk:Tryz.prog.underlying 5=some (.int .u8):=by kernel_rfl
 have us:Tryz.prog.underlying 148=some (.map 9 147):=by kernel_rfl
 have uz:Tryz.prog.underlying 9=some .string:=by kernel_rfl
 have xEm:Tryz.prog.underlying 149=some (.slice 5):=by kernel_rfl
 obtain⟨w1,r1,b1,u1,F1,k1⟩:=zI (x:=.i .u8 123) (f:=71) (tab:=[]) ut uk b0 ⟨by simp,by simp⟩ rfl rfl rfl;obtain⟨w2,r2,b2,u2,F2,k2⟩:=zI (x:=.i .u8 125) (f:=72) ut uk b1 F1 k1 rfl (by decide);obtain⟨w3,r3,b3,u3,F3,k3⟩:=zI (x:=.i .u8 58) (f:=73) ut uk b2 F2 k2 rfl (by decide);obtain⟨w4,r4,b4,u4,F4,k4⟩:=zI (x:=.i .u8 115) (f:=74) ut uk b3 F3 k3 rfl (by decide);obtain⟨w5,r5,b5,u5,F5,k5⟩:=zI (x:=.i .u8 121) (f:=75) ut uk b4 F4 k4 rfl (by decide);have B5:Below w.heap.size w w5:=u5.below (aP _) (u4.below (aP _) (u3.below (aP _) (u2.below (aP _) (u1.below (aP _) B0))));have z5:w5.heap.size=w.heap.size+1:=by rw[u5.size,u4.size,u3.size,u2.size,u1.size,z0]
 clear u1 u2 u3 u4 u5 b0 b1 b2 b3 b4 F1 F2 F3 F4 k1 k2 k3 k4 B0 z0;simp only[MK.v]at r1 r2 r3 r4 r5;have m6:=yOe w5 148;have B6:Below w.heap.size w (w5.alloc (.map #[] 0)):=B5.alloc (by omega) _;have b6:(w5.alloc (.map #[] 0)).heap[w5.heap.size]?=some (.map #[] 0):=heap_alloc_new w5 _;have z6:(w5.alloc (.map #[] 0)).heap.size=w.heap.size+2:=by rw[zEi,z5]
 have c6:=(Below.heap_alloc w5 (.map #[] 0) w.heap.size (by omega)).trans b5;rw[z5]at m6 b6;generalize w5.alloc (.map #[] 0)=w6 at m6 B6 b6 z6 c6;obtain⟨w7,r7,b7,u7,G1,q1⟩:=zI (x:=.s [61,100,68,103,71,104,72,110,78,112,80,120]) (f:=76) (tab:=[]) us uz b6 ⟨by simp,by simp⟩ rfl rfl rfl;obtain⟨w8,r8,b8,u8,G2,q2⟩:=zI (x:=.s [97,105,99]) (f:=77) us uz b7 G1 q1 rfl (by decide);obtain⟨w9,r9,b9,u9,G3,q3⟩:=zI (x:=.s [98,116,84]) (f:=78) us uz b8 G2 q2 rfl (by decide);obtain⟨w10,r10,b10,u10,G4,q4⟩:=zI (x:=.s [108,113,81]) (f:=79) us uz b9 G3 q3 rfl (by decide);obtain⟨w11,r11,b11,u11,G5,q5⟩:=zI (x:=.s [114,119]) (f:=80) us uz b10 G4 q4 rfl (by decide);have hle:w.heap.size<=w.heap.size+1:=Nat.le_succ _;have B11:Below w.heap.size w w11:=u11.below hle (u10.below hle (u9.below hle (u8.below hle (u7.below hle B6))));have z11:w11.heap.size=w.heap.size+2:=by rw[u11.size,u10.size,u9.size,u8.size,u7.size,z6]
 have hne:w.heap.size≠w.heap.size+1:=by omega
 have c11:w11.heap[w.heap.size]?=_:=(u11.block _ hne).trans ((u10.block _ hne).trans ((u9.block _ hne).trans ((u8.block _ hne).trans ((u7.block _ hne).trans c6))));clear u7 u8 u9 u10 u11 b6 b7 b8 b9 b10 G1 G2 G3 G4 G5 q1 q2 q3 q4 q5 B6 z6 c6 B5 b5;simp only[MK.v]at r7 r8 r9 r10 r11;have b11:w11.heap[w.heap.size+1]?=some (.map ents 5):=b11;have r12:=run_range_map w11 148 9 147 (w.heap.size+1) ents 5 us b11;have B12:Below w.heap.size w (w11.alloc (.mapIter (some (w.heap.size+1)) 5 #[] 5)):=B11.alloc (by omega) _;have i12:(w11.alloc (.mapIter (some (w.heap.size+1)) 5 #[] 5)).heap[w11.heap.size]?=some (.mapIter (some (w.heap.size+1)) 5 #[] 5):=heap_alloc_new w11 _;have c12:=(Below.heap_alloc w11 (.mapIter (some (w.heap.size+1)) 5 #[] 5) w.heap.size (by omega)).trans c11;have b12:=(Below.heap_alloc w11 (.mapIter (some (w.heap.size+1)) 5 #[] 5) (w.heap.size+1) (by omega)).trans b11;have z12:(w11.alloc (.mapIter (some (w.heap.size+1)) 5 #[] 5)).heap.size=w.heap.size+3:=by rw[zEi,z11]
 rw[z11]at r12 i12;generalize w11.alloc (.mapIter (some (w.heap.size+1)) 5 #[] 5)=w12 at r12 B12 i12 c12 b12 z12
 go_enter Tryz.func48,Tryz.ntmps48
 go_wp2
 go_loopg [5] 5 (λg _ wx=>∃ (seen:Array Nat) (es:Array MapEntry) (n c0:Nat),(leftOf ents seen).size=g/\wx.heap[w.heap.size+2]?=some (.mapIter (some (w.heap.size+1)) 5 seen c0)/\5<=c0/\wx.heap[w.heap.size+1]?=some (.map ents 5) /\
  wx.heap[w.heap.size]?=some (.map es n)/\Cv (vZ seen.toList) es.toList/\tO (TK.of (.int .u8)) (vZ seen.toList)=true/\Below w.heap.size w wx/\w.heap.size+3<=wx.heap.size)
 case atStart=>exact⟨#[],_,_,5,by kernel_rfl,i12,aP _,b12,c12,F5,k5,B12,Nat.le_of_eq z12.symm⟩
 case round =>
  clear k5 F5 r1 r2 r3 r4 r5 r7 r8 r9 r10 r11 r12 m0 m6 B12 i12 c12 b12 z12 z5 z11 c11 b11 B11;obtain⟨seen,es,n,c0,hg,hit,hc0,yVa,hes,hF,hK,hB,hz⟩:=hrel;have HB:Aside (Below w.heap.size w wr):=hB;have HF:Aside (Cv (vZ seen.toList) es.toList/\tO (TK.of (.int .u8)) (vZ seen.toList)=true):=⟨hF,hK⟩;have HG:Aside ((leftOf ents seen).size=gk):=hg;clear hB hF hK hg;rcases run_next_at (P:=Tryz.prog) wr 0 (w.heap.size+2) (w.heap.size+1) 5 c0 seen ents 5 hit yVa (by decide) hc0 with ⟨h0,hnx⟩|⟨e,he,w1,hw1,hrest⟩
  ·go_wp2
   go_ret
   exact⟨_,_,_,rfl,hes,xAk (yOd h0) HF.out.1,rfl,HB.out⟩
  ·obtain⟨hns,hmem,s,f,hk1,hk2,hk3⟩:=xAl he;have hlt:=yXa he;have HL:Aside (e.born∉seen.toList/\(leftOf ents (seen.push e.born)).size<(leftOf ents seen).size/\Ae e.born=kv s f/\e∈ents.toList):=⟨hns,hlt,hk3,hmem⟩;obtain⟨w2,hw2⟩:∃ w2,setBlock w1 (w.heap.size+2) (.mapIter (some (w.heap.size+1)) 5 (seen.push e.born) 5)=w2:=⟨_,rfl⟩;have hh:w1.heap=wr.heap:=by rcases hw1 with rfl|rfl<;>rfl
   have hB2:Below w.heap.size w w2:=by
    have:Below w.heap.size w w1:=by
     rcases hw1 with rfl|rfl
     ·exact HB.out
     ·exact Below.drew HB.out
    rw[<- hw2];exact this.trans ⟨rfl,rfl,rfl,by simp[setBlock],λk hk=>by simp only[setBlock];rw[Array.getElem?_setIfInBounds_ne (by omega)]⟩
   have hsz2:w2.heap.size=wr.heap.size:=by rw[<- hw2,<- hh];simp[setBlock]
   have hat:∀ k,k≠w.heap.size+2->w2.heap[k]?=wr.heap[k]?:=λk hk=>by rw[<- hw2,<- hh];simp only[setBlock];rw[Array.getElem?_setIfInBounds_ne (Ne.symm hk)]
   have hit2:w2.heap[w.heap.size+2]?=some (.mapIter (some (w.heap.size+1)) 5 (seen.push e.born) 5):=by
    rw[<- hw2];simp only[setBlock];rw[Array.getElem?_setIfInBounds_self_of_lt (by rw[hh];omega)]
   have yOf:=(hat _ (by omega)).trans yVa;have xEn:=(hat _ (by omega)).trans hes;rw[hw2]at hrest;clear hw1 hw2 hh hat he hns hlt hk3;have hen:=run_entry_at (P:=Tryz.prog) w2 (w.heap.size+2) (w.heap.size+1) 5 seen ents 5 e hit2 yOf hmem (by decide);rw[hk1,hk2]at hrest hen;have hcv:=Go.Lib.run_convert_string_bytes (P:=Tryz.prog) w2 9 149 5 ⟨s.toArray⟩ uz xEm uk;have hZ3:=Go.Lib.bytesWorld_size w2 5 ⟨s.toArray⟩;have hO3:=Go.Lib.bytesWorld_at_old w2 5 ⟨s.toArray⟩;have hC3:=Go.Lib.bytesWorld_cell w2 5 ⟨s.toArray⟩;have hB3:=hB2.trans (Go.Joins.below_bytesWorld w.heap.size w2 5 ⟨s.toArray⟩ (by omega));generalize Go.Lib.bytesWorld w2 5 ⟨s.toArray⟩=w3 at hcv hZ3 hO3 hC3 hB3;generalize hcap:grownCap w2 _ 0 5=cap at hcv;have hit3:=(hO3 _ (by omega)).trans hit2;have xAm:=(hO3 _ (by omega)).trans yOf;have xEo:=(hO3 _ (by omega)).trans xEn;clear hmem;have hk2:w.heap.size+3<=w2.heap.size:=by omega
   clear hsz2;generalize w2.heap.size=k2 at hcv hZ3 hO3 hC3 hk2;have hlen:(⟨s.toArray⟩:ByteArray).size=s.length:=by simp[ByteArray.size]
   rw[hlen]at hcv hC3;have hdat:(⟨s.toArray⟩:ByteArray).data.toList=s:=by simp
   simp only[hdat]at hC3
   go_wp2
   go_loopg [19] s.length (λg s19 wx=>∃ (j:Nat) (es':Array MapEntry) (n':Nat),j+g=s.length/\s19=.int .i64 j/\wx.heap[w.heap.size]?=some (.map es' n')/\Cv (vZ seen.toList++(kv s f).take j) es'.toList/\tO (TK.of (.int .u8)) (vZ seen.toList++(kv s f).take j)=true/\Upd w.heap.size w3 wx)
   case atStart=>exact⟨0,es,n,by omega,rfl,xEo,by simpa using HF.out.1,by simpa using HF.out.2,⟨rfl,rfl,rfl,rfl,λ_ _=>rfl⟩⟩
   case round =>
    obtain⟨j,es',n',hj,rfl,hes',hF',hK',hU⟩:=hrel;have hjb:k2≠w.heap.size:=by omega
    by_cases hjl:j<s.length
    ·obtain⟨b,hb⟩:∃ b,s[j]?=some b:=⟨s[j],List.getElem?_eq_getElem hjl⟩;have hcell:wr.cell? ⟨k2,j,none⟩=some (.int .u8 (b.toNat:Int)):=by
      have h1:=hC3 j hjl;rw[List.getD_eq_getElem?_getD,hb,Option.getD_some]at h1;rw[<- h1];exact World.cell?_of_block (w:=w3) (hU.block _ hjb)
     have hq:(Ae e.born)[j]?=some (.i .u8 (b.toNat:Int),f):=by
      rw[HL.out.2.2.1];unfold kv;rw[List.getElem?_map,hb];rfl
     have hnew:=fresh (seen:=seen.toList) (i:=e.born) HL.out.1 hq;rw[HL.out.2.2.1]at hnew hq;have htk:(kv s f).take (j+1)=(kv s f).take j++[(.i .u8 (b.toNat:Int),f)]:=by rw[List.take_add_one,hq];rfl
     obtain⟨w4,r4,b4,u4,F4,K4⟩:=zI (x:=.i .u8 (b.toNat:Int)) (f:=f) ut uk hes' hF' hK' rfl hnew;rw[List.append_assoc,<- htk]at F4 K4;simp only[MK.v]at r4;have HF4:Aside (Cv (vZ seen.toList++(kv s f).take (j+1)) _/\tO (TK.of (.int .u8)) (vZ seen.toList++(kv s f).take (j+1))=true):=⟨F4,K4⟩;have hU4:Upd w.heap.size w3 w4:=⟨u4.os.trans hU.os,u4.tape.trans hU.tape,u4.output.trans hU.output,u4.size.trans hU.size,λk hk=>(u4.block k hk).trans (hU.block k hk)⟩;clear F4 K4 hF' hK' hq hnew htk hb u4;have hjz:(j:Int)<(s.length:Int):=by omega
     have hj0:(0:Int)<=(j:Int):=by omega
     have h12:s.length<=12:=by
      have:=yBx e.born;rw[HL.out.2.2.1]at this;simpa [kv]using this
     have hwr:Aside (wrap64 ((j:Int)+1)=((j+1:Nat):Int)):=by rw[IntWalk.wrap64_in _ (by omega)];rfl
     clear h12
     go_wp2
     go_roundg (gk-1)
     case measure=>omega
     case rel=>exact⟨j+1,_,_,by omega,by rw[hwr.out],b4,HF4.out.1,HF4.out.2,hU4⟩
    ·obtain rfl:j=s.length:=by omega
     have hF2:Cv (vZ (seen.push e.born).toList) es'.toList/\tO (TK.of (.int .u8)) (vZ (seen.push e.born).toList)=true:=by
      have:vZ (seen.push e.born).toList=vZ seen.toList++(kv s f).take s.length:=by
       unfold vZ;rw[Array.toList_push,List.flatMap_append,List.append_assoc,List.take_of_length_le (by simp[kv])];congr 1;show _++(Ae e.born++[])=_;rw[HL.out.2.2.1,List.append_nil]
      rw[this];exact⟨hF',hK'⟩
     have HF2:Aside (Cv (vZ (seen.push e.born).toList) es'.toList/\tO (TK.of (.int .u8)) (vZ (seen.push e.born).toList)=true):=hF2;clear hF2 hF' hK';have hjz:¬ ((s.length:Int)<(s.length:Int)):=by omega
     go_wp2
     go_roundg ((leftOf ents (seen.push e.born)).size)
     case measure=>have h1:=HL.out.2.1;have h2:=HG.out;omega
     case rel=>exact⟨seen.push e.born,es',n',5,rfl,(hU.block _ (by omega)).trans hit3,aP _,(hU.block _ (by omega)).trans xAm,hes',HF2.out.1,HF2.out.2,hU.below (aP _) hB3,by rw[hU.size];omega⟩
end Go.Dec
namespace Go.Dec
open Go.Proofs
abbrev Ww:Sh:=⟨0,[],[]⟩
abbrev Eb:Sh:=⟨1,[⟨0,false,[.mp 0]⟩],[.fm Oi]⟩
theorem zKz(n:Nat):dV Tryz.prog 48 Ww Eb (Zy n):=by
 refine⟨by kernel_rfl,λx y hy C β w xs hP hkf hs=>?_⟩;have henc:Ww.enc x=⟨[],[]⟩:=rfl;rw[henc]at hs;have hl:xs.length=0:=by have:=hs.size;simpa using this.symm
 obtain rfl:=List.length_eq_zero_iff.1 hl;refine(yLb w).mono λe w' ⟨b,es,nn,he,hms,hfm,hb,hbel⟩=>?_
 subst he hb;have hlt:w.heap.size<w'.heap.size:=(Array.getElem?_eq_some_iff.1 hms).1
 let p:Pl:=⟨true,true,0,some w.heap.size,0,0,0,[]⟩
 have hk:Keep (λ_ _=>False) w w':=Keep.mP (M:=λ_=>False) hbel.size (λj hj _=>hbel.block j hj) (λ_ _ h=>h);have Dq:=hs.zOv (o:=.fm Oi) (p:=p) (w':=w') (λb' hb'=>by
  have:b'=w.heap.size:=by
   have:=Ob.uG (o:=.fm Oi) rfl hb';simpa [p]using this.symm
  subst this;exact⟨aP _,hlt⟩) hk ⟨hbel.os,hbel.tape,hbel.output⟩ (by
  simp only[Ob.Rel];exact⟨rfl,rfl,_,es,nn,rfl,hms,hfm⟩)
 refine⟨[.map (some w.heap.size)],_,rfl,⟨Dq.heap,rfl,by rw[show(Eb.enc y).r=[.one (.mp 0)]from rfl];rfl,λi v hv=>?_⟩⟩;cases i with
 |zero =>
  have hv:v=.one (.mp 0):=by
   have:(Eb.enc y).r=[.one (.mp 0)]:=rfl;rw[this]at hv;simpa using hv.symm
  subst hv;simp only[V.Rel,L.Rel];exact⟨rfl,rfl,_,rfl,rfl⟩
 |succ i =>
  have:(Eb.enc y).r=[.one (.mp 0)]:=rfl;rw[this]at hv;simp at hv
end Go.Dec
