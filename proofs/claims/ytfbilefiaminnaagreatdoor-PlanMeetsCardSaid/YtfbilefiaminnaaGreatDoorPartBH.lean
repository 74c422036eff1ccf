/- Part of a proof over this seat: a library of my own, and what it says of this seat. No statement is proved here. -/
import Derived.Test.YtfbilefiaminnaaGreatDoorProg
import Derived.Test.YtfbilefiaminnaaGreatDoorPartAQ
import Derived.Test.YtfbilefiaminnaaGreatDoorPartAS
import Derived.Test.YtfbilefiaminnaaGreatDoorPartBG
import Derived.Test.YtfbilefiaminnaaGreatDoorPartBE
import Derived.KernelRfl
import Derived.Sort.OwnSorted
import Derived.Shelf.Slices.CompactS
namespace Go.Dec
open Go.Proofs
set_option linter.unusedVariables false
def xCu:Tab:=[(3,⟨.int .i64,1,8,[.val (.int .i64) 0],some (.int .i64),false⟩),(4,⟨.bool,1,1,[.val .bool false],some .bool,false⟩),(5,⟨.int .u8,1,1,[.val (.int .u8) 0],some (.int .u8),false⟩),(9,⟨.str,1,16,[.val .str []],some .str,false⟩),(32,⟨.slice 9,1,24,[.bJ],some (.slice .str),false⟩),(36,⟨.slice 87,1,24,[.bJ],some (.slice bQ),false⟩),(37,⟨.slice 77,1,24,[.bJ],some (.slice aC),false⟩),(39,⟨.struct [(0,4),(1,36),(2,37)],3,56,[.val .bool false,.bJ,.bJ],some oO,false⟩),(70,⟨.map 9 3,1,8,[.val .opq (Value.map none)],none,false⟩),(72,⟨.struct [(0,3),(1,3),(2,3)],3,24,[.val (.int .i64) 0,.val (.int .i64) 0,.val (.int .i64) 0],some Wi,true⟩),(74,⟨.struct [(0,72),(3,72),(6,4)],7,56,[.val (.int .i64) 0,.val (.int .i64) 0,.val (.int .i64) 0,.val (.int .i64) 0,.val (.int .i64) 0,.val (.int .i64) 0,.val .bool false],some zG,true⟩),(75,⟨.slice 134,1,24,[.bJ],some (.slice oF),false⟩),(77,⟨.struct [(0,74),(7,5),(8,9),(9,9),(10,3),(11,3),(12,3),(13,75),(14,4),(15,4)],16,152,[.val (.int .i64) 0,.val (.int .i64) 0,.val (.int .i64) 0,.val (.int .i64) 0,.val (.int .i64) 0,.val (.int .i64) 0,.val .bool false,.val (.int .u8) 0,.val .str [],.val .str [],.val (.int .i64) 0,.val (.int .i64) 0,.val (.int .i64) 0,.bJ,.val .bool false,.val .bool false],some aC,false⟩),(85,⟨.slice 125,1,24,[.bJ],some (.slice bA),false⟩),(87,⟨.struct [(0,85),(1,4)],2,32,[.bJ,.val .bool false],some bQ,false⟩),(108,⟨.func,1,8,[.val .opq Value.nilFunc],some .opq,false⟩),(121,⟨.int .u64,1,8,[.val (.int .u64) 0],some (.int .u64),false⟩),(123,⟨.arr 4 121,4,32,[.val (.arr 4 (.int .u64)) ([0,0,0,0])],some (.arr 4 (.int .u64)),true⟩),(125,⟨.struct [(0,3),(1,123),(5,3),(6,3),(7,3),(8,3),(9,3)],10,80,[.val (.int .i64) 0,.val (.arr 4 (.int .u64)) ([0,0,0,0]),.val (.int .i64) 0,.val (.int .i64) 0,.val (.int .i64) 0,.val (.int .i64) 0,.val (.int .i64) 0],some bA,true⟩),(134,⟨.struct [(0,9),(1,3)],2,24,[.val .str [],.val (.int .i64) 0],some oF,true⟩)]
theorem yCn:bM Tryz.prog xCu:=zDa (by kernel_rfl)
theorem yGt:Tryz.prog.follows .mixedOrders=true:=by kernel_rfl
abbrev zCp:Sh:=⟨1,[⟨0,false,[.mp 0]⟩],[.dm .str (.int .i64)]⟩
abbrev Oz:Sh:=⟨1,[⟨0,false,[.clo 59 [(1,0)]]⟩],[.dm .str (.int .i64),.box 70 [.mp 0]]⟩
abbrev zXo:List Ty:=[oO]
abbrev zFt:List Ty:=[.slice .str,.slice .str]
def zRf (n:Nat):An (Oz.X) := .nil
theorem zGk(n:Nat):dV Tryz.prog 43 zCp Oz (Bf n):=
 dL (Γ:=bB _ [] []) (an:=zRf n) (co:=[.gc [0,1]]) Tryz.func43 rfl (by kernel_rfl) yCn (aH (all_nil) (aI)) yGt (aF _ _ rfl) (by kernel_rfl) (by kernel_rfl) (λx=>by kernel_rfl)
def zTx (n:Nat):An (dB zFt):=(.mk .nil (.mk .nil (.mk (.mk .nil (.mk (.loop ⟨51,[⟨4,false,[.mp 0]⟩,⟨5,false,[.mp 1]⟩,⟨11,false,[.v (.slice aC)]⟩,⟨12,false,[.v (.int .i64)]⟩,⟨13,false,[.v (.int .i64)]⟩],[.dm .str (.int .i64),.dm .str (.int .i64)]⟩ [.keep (kbm 14 14384),.gcA 0,.gcA 0] [.keep (kbm 14 14384),.gcA 0,.gcA 0] n .nil) .nil []) []) .nil []) []) [])
theorem zLe(n:Nat):Pure Tryz.prog 25 zXo zFt (Lv n):=
 bT (Γ:=bB _ [(43,peM zCp Oz (Bf n)),(42,peM Cb Cc (kW n))] []) (an:=zTx n) Tryz.func25 rfl (by kernel_rfl) yCn (aH (all_cons (aZ (zGk n)) (all_cons (aZ (Wt n)) (all_nil))) (aI)) yGt (aF _ _ rfl) (λx=>by kernel_rfl)
end Go.Dec
namespace Go.Dec
open Go.Proofs Go.RowKit Go.Sort Go.Shelf Go.Lib
abbrev Mr:List Ty:=[Ws]
abbrev Ms:List Ty:=[.slice .str,.slice .str]
theorem yLd(w:World)(base:Nat)(r:Value)(zs:List (List UInt8))(h:w.ownsRow base 9 1 r zs.length (zs.map encStr))(hb:base<=w.heap.size)(hl:zs.length<=2000000):Calls Tryz.prog 26 #[r] w λe w'=>e=.returned (.tuple #[])/\w'.ownsRow base 9 1 r zs.length ((vY zs).map encStr)/\Below base w w':=by
 have hsk:zs.mergeSort (λx y=>decide (x<=y))=vY zs:=yNy (.refl _);rcases h.2 with ⟨rfl,hz⟩|⟨g,cap,cur,rfl,hge,hcell,r1,r2,r3,r4⟩
 ·obtain rfl:=List.eq_nil_of_length_eq_zero hz;refine(AnyM.slices_Sort_string_none Tryz.sortA none 0 w).mono ?_;rintro e w' ⟨rfl,rfl⟩;exact⟨rfl,h,Below.refl _ _⟩
 ·have hH:Holds encStr w g 0 zs.toArray:=holds_of_block hcell (by simpa using r4);refine(AnyM.slices_Sort_string Tryz.sortA g 0 cap zs w hH (Array.getElem?_eq_some_iff.1 hcell).1 (by omega)).mono ?_;rintro e w' ⟨rfl,nn,os,rfl⟩;rw[hsk];have hl2:(vY zs).length=zs.length:=(Ui zs).length_eq;exact⟨rfl,ownsRow_sorted hl2 hge hcell r1 r2 r3,(Below.refl base w).grown (grownBy_sorted _) hb (λj hj=>by cases hj;exact hge)⟩
theorem zXp(w:World)(base:Nat)(r:Value)(zs:List (List UInt8))(h:w.ownsRow base 9 1 r zs.length (zs.map encStr))(hb:base<=w.heap.size)(hl:zs.length<=2000000):Calls Tryz.prog 27 #[r] w λe w'=>∃ v,e=.returned v/\w'.ownsRow base 9 1 v (compact zs).length ((compact zs).map encStr)/\Below base w w':=by
 rcases h.2 with ⟨rfl,hz⟩|⟨g,cap,cur,rfl,hge,hcell,r1,r2,r3,r4⟩
 ·obtain rfl:=List.eq_nil_of_length_eq_zero hz;refine(Tryz.slices_Compact_string_empty none 0 w).mono ?_;rintro e w' ⟨rfl,rfl⟩;exact⟨_,rfl,World.ownsRow_nil _ _ _ _,Below.refl _ _⟩
 ·have hH:Holds encStr w g 0 zs.toArray:=holds_of_block hcell (by simpa using r4);refine(Tryz.slices_Compact_string g 0 cap zs w hH (by omega) r1).mono ?_;rintro e w' ⟨rfl,q,rfl⟩;have hle:(compact zs).length<=zs.length:=by
   unfold compact compactUpTo;rw[List.length_map];exact Nat.le_trans (List.length_filter_le _ _) (by simp)
  have hl2:(compact zs++List.replicate (zs.length-(compact zs).length) []).length=zs.length:=by rw[List.length_append,List.length_replicate];omega
  have ho:=ownsRow_sorted (n:=q) (os:=#[]) (ts:=compact zs++List.replicate (zs.length-(compact zs).length) []) hl2 hge hcell r1 r2 r3;rw[grow_empty]at ho;have hg:Below base w (putRow encStr (Sort.ahead w q) g 0 (compact zs++List.replicate (zs.length-(compact zs).length) []).toArray):=by
   have:=(Below.refl base w).grown (grownBy_sorted (w:=w) (g:=g) (n:=q) (os:=#[]) (compact zs++List.replicate (zs.length-(compact zs).length) []).toArray) hb (λj hj=>by cases hj;exact hge)
   rwa [grow_empty]at this
  refine⟨_,rfl,⟨by simp,.inr ?_⟩,hg⟩;rcases ho.2 with ⟨h0,_⟩|⟨g',cap',cur',he,hge',hcell',s1,s2,s3,s4⟩
  ·cases h0
  ·simp only[Value.slice.injEq,aA,Addr.mk.injEq,true_and]at he;obtain⟨⟨rfl,_⟩,rfl⟩:=he;refine⟨g,cap,cur',rfl,hge,hcell',by omega,s2,s3,?_⟩;have:cur'.toList.take ((compact zs).length*1)=(cur'.toList.take (zs.length*1)).take ((compact zs).length*1):=by rw[List.take_take];congr 1;omega
   rw[this,s4,List.map_append,Nat.mul_one,List.take_left' (by simp)]
theorem wV{w w':World}(h:Below w.heap.size w w'):Keep (λ_ _=>False) w w':=Keep.mP (M:=λ_=>False) h.size (λb hb _=>h.block b hb) (λ_ _ h=>h)
set_option maxHeartbeats 4000000 in
set_option maxRecDepth 100000 in
theorem Jp(n:Nat):Pure Tryz.prog 16 Mr Ms (gK n):=by
 refine⟨by kernel_rfl,λx y hF w N xs hG hN hx=>?_⟩;obtain⟨sc,q,fs,b,u⟩:=x;obtain⟨v,rfl,hv⟩:∃ v,xs=[v]/\Ws.bP w N (sc,q,fs,b,u) v:=hx;simp only[Ty.bP,show Ws.isAgg=true from rfl,if_true]at hv;obtain⟨cs,rfl,hv⟩:=hv;obtain⟨c1,c2,rfl,hsc,c3,c4,rfl,hq,c5,c6,rfl,hfs,c7,c8,rfl,hb,hu⟩:=hv;have xAn:oO.bP w N sc (.agg c1.toArray):=by
  simp only[Ty.bP,show oO.isAgg=true from rfl,if_true];exact⟨c1,rfl,hsc⟩
 obtain⟨d1,d2,rfl,h1,d3,d4,rfl,h2,d5,d6,rfl,h3,h4⟩:=hsc;have xAo:=hfs;obtain⟨vp,rfl,_⟩:=h2;obtain⟨vc,rfl,_⟩:=h3;obtain⟨vf,rfl,_⟩:=hfs;obtain⟨pf,kf,rfl,_⟩:=Od xAo;simp only[Ty.Rel]at h1 h4 hq hb hu;subst h1 h4 hq hb hu;simp only[List.nil_append,List.cons_append,List.append_nil]at xAn ⊢;unfold gK at hF;simp only at hF;have e25:∀ args w,(callFunc 25 args).run Tryz.prog w=.ok (.enter 25 args) w:=enters_of Tryz.func25 (by kernel_rfl) rfl;have e20:∀ args w,(callFunc 20 args).run Tryz.prog w=.ok (.enter 20 args) w:=enters_of Tryz.func20 (by kernel_rfl) rfl;have e26:∀ args w,(callFunc 26 args).run Tryz.prog w=.ok (.enter 26 args) w:=enters_of Tryz.func26 (by kernel_rfl) rfl;have e27:∀ args w,(callFunc 27 args).run Tryz.prog w=.ok (.enter 27 args) w:=enters_of Tryz.func27 (by kernel_rfl) rfl;cases hbv:(sc,q,fs,b,u).2.2.2.1 with
 |true =>
  simp only at hbv;subst hbv;simp only[br]at hF;obtain rfl:=Option.some.inj hF
  go_enter Tryz.func16,Tryz.ntmps16
  go_wp2
  go_ret2
  exact⟨[.slice none 0 0,.slice none 0 0],rfl,rfl,rfl,rfl,wV ((Below.refl _ _).alloc (aP _) _),_,_,rfl,⟨_,rfl,.inl ⟨rfl,rfl⟩⟩,_,rfl,⟨_,rfl,.inl ⟨rfl,rfl⟩⟩⟩
 |false =>
  simp only at hbv;subst hbv;simp only[br]at hF;obtain⟨z,hz,hF⟩:=zJw hF;obtain⟨hc,hF⟩:=iM hF;obtain rfl:=Option.some.inj hF;have hc:=bR hc;have xEp:=(zLe n).2 sc z hz
  go_enter Tryz.func16,Tryz.ntmps16
  have hB1:Below w.heap.size w (w.alloc (Obj.cells #[Value.bool sc.fst,vp,vc,Value.bool q,Value.slice pf fs.length kf,Value.bool false] 41)):=(Below.refl _ _).alloc (aP _) _;have hk1:=wV hB1;have mV:(w.alloc (Obj.cells #[Value.bool sc.fst,vp,vc,Value.bool q,Value.slice pf fs.length kf,Value.bool false] 41)).heap[w.heap.size]?=some (Obj.cells #[Value.bool sc.fst,vp,vc,Value.bool q,Value.slice pf fs.length kf,Value.bool false] 41):=heap_alloc_new w _;have cF:=xEp _ N _ (Glob.keep hG (λb hb=>hB1.block b hb)) (λb j h=>Nat.lt_of_lt_of_le (hN b j h) hB1.size) (show nS _ N [oO] sc [_]from ⟨_,rfl,xAn.mono (hk1.weaken λ_ _ h=>h.elim) (λ_ _ _ h=>h)⟩);have HB1:Aside (Below w.heap.size w (w.alloc (Obj.cells #[Value.bool sc.fst,vp,vc,Value.bool q,Value.slice pf fs.length kf,Value.bool false] 41))/\(w.alloc (Obj.cells #[Value.bool sc.fst,vp,vc,Value.bool q,Value.slice pf fs.length kf,Value.bool false] 41)).heap[w.heap.size]?=some (Obj.cells #[Value.bool sc.fst,vp,vc,Value.bool q,Value.slice pf fs.length kf,Value.bool false] 41)):=⟨hB1,mV⟩;clear hB1 hk1 mV;have cF2:Calls Tryz.prog 25 #[Value.agg #[Value.bool sc.fst,vp,vc]] (w.alloc (Obj.cells #[Value.bool sc.fst,vp,vc,Value.bool q,Value.slice pf fs.length kf,Value.bool false] 41)) λe w'=>∃ p1 k1 u2,e=.returned (.tuple #[.slice p1 z.1.length k1,u2])/\Below w.heap.size w w'/\w'.cell? ⟨w.heap.size,4,none⟩=some (Value.slice pf fs.length kf)/\w.heap.size<w'.heap.size /\
   (Ty.slice .str).Rel w' N z.1 [.slice p1 z.1.length k1]/\(Ty.slice .str).Rel w' N z.2 [u2]/\(Ty.slice .str).Rel w' N fs [Value.slice pf fs.length kf]:=by
   refine cF.mono ?_;rintro e w2 ⟨us,rfl,o1,o2,o3,hk2,u1,us2,rfl,hr1,u2,rfl,hr2⟩;have hB2:=HB1.out.1.trans (⟨o1,o2,o3,hk2.1,λb hb=>hk2.2 b (Nat.lt_of_lt_of_le hb HB1.out.1.size) λ_ h=>h⟩:Below w.heap.size _ w2);have hlt:=(Array.getElem?_eq_some_iff.1 HB1.out.2).1;obtain⟨p1,k1,rfl,_⟩:=Od hr1;exact⟨p1,k1,u2,rfl,hB2,by simp only[World.cell?,(hk2.2 _ hlt λ_ h=>h).trans HB1.out.2];rfl,Nat.lt_of_lt_of_le hlt hk2.1,hr1,hr2,xAo.mono ((wV hB2).weaken λ_ _ h=>h.elim) (λ_ _ _ h=>h)⟩
  clear cF
  go_wp2_with (go_at_fn 25;refine cF2.mono ?_;rintro e w2 ⟨p1,k1,u2,rfl,hB2,hc4,hlt,hr1,hr2,hr3⟩)
  have HR:Aside (Below w.heap.size w w2/\(Ty.slice .str).Rel w2 N z.1 [.slice p1 z.1.length k1]/\(Ty.slice .str).Rel w2 N z.2 [u2]/\(Ty.slice .str).Rel w2 N fs [Value.slice pf fs.length kf]):=⟨hB2,hr1,hr2,hr3⟩;clear hr1 hr2 hr3 hB2 cF2;have hB3:Below w2.heap.size w2 (w2.alloc (Obj.cells #[Value.slice p1 z.1.length k1,Value.slice pf fs.length kf] 32)):=(Below.refl _ _).alloc (aP _) _;have hnew:(w2.alloc (Obj.cells #[Value.slice p1 z.1.length k1,Value.slice pf fs.length kf] 32)).heap[w2.heap.size]?=some (Obj.cells #[Value.slice p1 z.1.length k1,Value.slice pf fs.length kf] 32):=heap_alloc_new w2 _;have cC:=zIc (w2.alloc (Obj.cells #[Value.slice p1 z.1.length k1,Value.slice pf fs.length kf] 32)) w2.heap.size 0 2 _ _ z.1 fs ((Od HR.out.2.1).mono hB3.block) ((Od HR.out.2.2.2).mono hB3.block) (by simp only[World.cell?,hnew];rfl) (by simp only[World.cell?,hnew];rfl) hc;have HB3:Aside (Below w2.heap.size w2 (w2.alloc (Obj.cells #[Value.slice p1 z.1.length k1,Value.slice pf fs.length kf] 32))):=hB3;clear hB3 hnew;generalize w2.alloc (Obj.cells #[Value.slice p1 z.1.length k1,Value.slice pf fs.length kf] 32)=w3 at cC HB3 ⊢;have hl:=Ui (z.1++fs);have hll:(vY (z.1++fs)).length=(z.1++fs).length:=hl.length_eq;have hcl:(z.1++fs).length<=1000000:=by rw[List.length_append];exact hc
  go_wp2_with (go_at_fn 20;refine cC.mono ?_;rintro e w4 ⟨r4,rfl,ho4,hb4⟩)
  have cS:=yLd w4 w3.heap.size r4 _ ho4 hb4.size (by omega);have HB4:Aside (Below w3.heap.size w3 w4):=hb4;clear ho4 hb4 cC
  go_wp2_with (go_at_fn 26;refine cS.mono ?_;rintro e w5 ⟨rfl,ho5,hb5⟩)
  have cM:=zXp w5 w3.heap.size r4 (vY (z.1++fs)) (by rw[hll];exact ho5) (Nat.le_trans HB4.out.size hb5.size) (by omega);have HB5:Aside (Below w3.heap.size w4 w5):=hb5;clear ho5 hb5 cS
  go_wp2_with (go_at_fn 27;refine cM.mono ?_;rintro e w6 ⟨v6,rfl,ho6,hb6⟩)
  go_ret2
  have xEq:Below w3.heap.size w3 w6:=(HB4.out.trans HB5.out).trans hb6;have xAp:Below w2.heap.size w2 w6:=HB3.out.trans (xEq.mono HB3.out.size);have yLe:Below w.heap.size w w6:=HR.out.1.trans (xAp.mono HR.out.1.size);refine⟨[v6,u2],rfl,yLe.os,yLe.tape,yLe.output,wV yLe,v6,_,rfl,?_,u2,rfl,?_⟩
  ·exact zIb (w:=w3) (λb j hb hn=>by have:=hN b j hn;have h1:=HR.out.1.size;have h2:=HB3.out.size;omega) ho6
  ·exact HR.out.2.2.1.mono ((wV xAp).weaken λ_ _ h=>h.elim) (λ_ _ _ h=>h)
abbrev Rq:List Ty:=[.slice (.slice .str)]
abbrev Rs:List Ty:=[.slice .str]
theorem zAu(n:Nat):Pure Tryz.prog 20 Rq Rs (kD n):=by
 refine⟨by kernel_rfl,λx y hF w N xs hG hN hx=>?_⟩;obtain⟨a,b,rfl⟩:∃ a b,x=[a,b]:=by
  match x,hF with
  |[a,b],_=>exact⟨a,b,rfl⟩
  |[],h=>exact absurd h (by simp[kD])
  |[_],h=>exact absurd h (by simp[kD])
  |_::_::_::_,h=>exact absurd h (by simp[kD])
 unfold kD at hF;simp only at hF;obtain⟨hc,hF⟩:=iM hF;obtain rfl:=Option.some.inj hF;have hc:=bR hc;obtain⟨v,rfl,hv⟩:∃ v,xs=[v]/\(Ty.slice (.slice .str)).bP w N [a,b] v:=hx;simp only[Ty.bP,show(Ty.slice (.slice .str)).isAgg=false from rfl,Bool.false_eq_true,if_false]at hv;obtain⟨v',hv',hv⟩:=hv;obtain rfl:v=v':=by simpa using hv'
 rcases hv with ⟨_,h0⟩|⟨bb,oo,cap,css,rfl,hb,_,_,_,hall,_,hcells⟩|⟨_,_,_,h0,_⟩
 ·cases h0
 ·obtain⟨c1,xAq,rfl⟩:∃ c1 r,css=c1::r:=by cases css with|nil=>exact hall.elim|cons c r=>exact⟨c,r,rfl⟩
  obtain⟨h1,hall⟩:=hall;obtain⟨c2,xAr,rfl⟩:∃ c1 r,xAq=c1::r:=by cases xAq with|nil=>exact hall.elim|cons c r=>exact⟨c,r,rfl⟩
  obtain⟨h2,hall⟩:=hall;obtain rfl:xAr=[]:=by cases xAr with|nil=>rfl|cons c r=>exact hall.elim
  obtain⟨v1,rfl,h1⟩:=h1;obtain⟨v2,rfl,h2⟩:=h2;have q0:=hcells 0 v1 rfl;have q1:=hcells 1 v2 rfl;refine(zIc w bb oo cap v1 v2 a b (Od ⟨v1,rfl,h1⟩) (Od ⟨v2,rfl,h2⟩) q0 q1 hc).mono ?_;rintro e w' ⟨r,rfl,ho,hbl⟩;exact⟨[r],rfl,hbl.os,hbl.tape,hbl.output,wV hbl,r,rfl,zIb (w:=w) (λb j hb hn=>by have:=hN b j hn;omega) ho⟩
 ·cases h0
end Go.Dec
