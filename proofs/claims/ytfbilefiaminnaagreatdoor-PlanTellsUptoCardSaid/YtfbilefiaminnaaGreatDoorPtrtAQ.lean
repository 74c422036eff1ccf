import Derived.Test.YtfbilefiaminnaaGreatDoorPtrtAP
open Go.Proofs.Tryz renaming prog->qEr
open List renaming replicate->qAf,eq_nil_of_length_eq_zero->qBi,length_append->xG
open Option.some renaming inj->qBc
open Nat renaming lt_of_lt_of_le->wD,le_trans->zG
open Array renaming getElem?_eq_some_iff->qCk
namespace Go.Dec
open Go.Proofs
set_option linter.unusedVariables false
def xJt:Tab:=tab++[(108,⟨.func,1,8,[.val .opq Value.nilFunc],some .opq,false⟩)]
theorem yHp:bU qEr xJt:=Yc (by kernel_rfl)
theorem yMh:qEr.follows .mixedOrders=true:=by kernel_rfl
abbrev zFw:Sh:=⟨1,[⟨0,false,[.mp 0]⟩],[.dm .str (.int .i64)]⟩
abbrev Rc:Sh:=⟨1,[⟨0,false,[.clo 59 [(1,0)]]⟩],[.dm .str (.int .i64),.box 70 [.mp 0]]⟩
abbrev yCi:List Ty:=[iH]
abbrev zJi:List Ty:=[.slice .str,.slice .str]
def zWq (n:Nat):An (Rc.X) := .nil
theorem zKa(n:Nat):dV qEr 43 zFw Rc (Cn n):=
 dO (Γ:=bA _ [] []) (an:=zWq n) (co:=[.gc [0,1]]) Tryz.func43 rfl (by kernel_rfl) yHp (aG (all_nil) (aH)) yMh (aF _ _ rfl) (by kernel_rfl) (by kernel_rfl) (λx=>by kernel_rfl)
def zZh (n:Nat):An (bT zJi):=(.mk .nil (.mk .nil (.mk (.mk .nil (.mk (.loop ⟨51,[⟨4,false,[.mp 0]⟩,⟨5,false,[.mp 1]⟩,⟨11,false,[.v (.slice aB)]⟩,⟨12,false,[.v (.int .i64)]⟩,⟨13,false,[.v (.int .i64)]⟩],[.dm .str (.int .i64),.dm .str (.int .i64)]⟩ [.keep (kbm 14 14384),.gcA 0,.gcA 0] [.keep (kbm 14 14384),.gcA 0,.gcA 0] n .nil) .nil []) []) .nil []) []) [])
theorem zPb(n:Nat):Pure qEr 25 yCi zJi (Oa n):=
 bH (Γ:=bA _ [(43,peM zFw Rc (Cn n)),(42,peM Dl Dm (lF n))] []) (an:=zZh n) Tryz.func25 rfl (by kernel_rfl) yHp (aG (all_cons (bF (zKa n)) (all_cons (bF (Ze n)) (all_nil))) (aH)) yMh (aF _ _ rfl) (λx=>by kernel_rfl)
end Go.Dec
namespace Go.Dec
open Go.Proofs Go.RowKit Go.Sort Go.Shelf Go.Lib
abbrev Zy:List Ty:=[aO]
theorem yQw(w:World)(base:Nat)(r:Value)(zs:List (List UInt8))(h:w.ownsRow base 9 1 r zs.length (zs.map encStr))(hb:base<=w.heap.size)(hl:zs.length<=2000000):Calls qEr 26 #[r] w λe w'=>e=.returned (.tuple #[])/\w'.ownsRow base 9 1 r zs.length ((tH zs).map encStr)/\Below base w w':=by
 have hsk:zs.mergeSort (λx y=>decide (x<=y))=tH zs:=yTz (.refl _);rcases h.2 with ⟨rfl,hz⟩|⟨g,cap,cur,rfl,hge,hcell,r1,r2,r3,r4⟩
 ·obtain rfl:=qBi hz;refine(AnyM.slices_Sort_string_none Tryz.sortA none 0 w).mono ?_;rintro e w' ⟨rfl,rfl⟩;exact⟨rfl,h,Below.refl _ _⟩
 ·have hH:Holds encStr w g 0 zs.toArray:=holds_of_block hcell (by simpa using r4);refine(AnyM.slices_Sort_string Tryz.sortA g 0 cap zs w hH (qCk.1 hcell).1 (by omega)).mono ?_;rintro e w' ⟨rfl,nn,os,rfl⟩;rw[hsk];have hl2:(tH zs).length=zs.length:=(Xa zs).length_eq;exact⟨rfl,ownsRow_sorted hl2 hge hcell r1 r2 r3,(Below.refl base w).grown (grownBy_sorted _) hb (λj hj=>by cases hj;exact hge)⟩
theorem yCj(w:World)(base:Nat)(r:Value)(zs:List (List UInt8))(h:w.ownsRow base 9 1 r zs.length (zs.map encStr))(hb:base<=w.heap.size)(hl:zs.length<=2000000):Calls qEr 27 #[r] w λe w'=>∃ v,e=.returned v/\w'.ownsRow base 9 1 v (compact zs).length ((compact zs).map encStr)/\Below base w w':=by
 rcases h.2 with ⟨rfl,hz⟩|⟨g,cap,cur,rfl,hge,hcell,r1,r2,r3,r4⟩
 ·obtain rfl:=qBi hz;refine(Tryz.slices_Compact_string_empty none 0 w).mono ?_;rintro e w' ⟨rfl,rfl⟩;exact⟨_,rfl,World.ownsRow_nil _ _ _ _,Below.refl _ _⟩
 ·have hH:Holds encStr w g 0 zs.toArray:=holds_of_block hcell (by simpa using r4);refine(Tryz.slices_Compact_string g 0 cap zs w hH (by omega) r1).mono ?_;rintro e w' ⟨rfl,q,rfl⟩;have hle:(compact zs).length<=zs.length:=by
   unfold compact compactUpTo;rw[List.length_map];exact zG (List.length_filter_le _ _) (by simp)
  have hl2:(compact zs++qAf (zs.length-(compact zs).length) []).length=zs.length:=by rw[xG,List.length_replicate];omega
  have ho:=ownsRow_sorted (n:=q) (os:=#[]) (ts:=compact zs++qAf (zs.length-(compact zs).length) []) hl2 hge hcell r1 r2 r3;rw[grow_empty]at ho;have hg:Below base w (putRow encStr (Sort.ahead w q) g 0 (compact zs++qAf (zs.length-(compact zs).length) []).toArray):=by
   have:=(Below.refl base w).grown (grownBy_sorted (w:=w) (g:=g) (n:=q) (os:=#[]) (compact zs++qAf (zs.length-(compact zs).length) []).toArray) hb (λj hj=>by cases hj;exact hge)
   rwa [grow_empty]at this
  refine⟨_,rfl,⟨by simp,.inr ?_⟩,hg⟩;rcases ho.2 with ⟨h0,_⟩|⟨g',cap',cur',he,hge',hcell',s1,s2,s3,s4⟩
  ·cases h0
  ·simp only[Value.slice.injEq,aA,Addr.mk.injEq,true_and]at he;obtain⟨⟨rfl,_⟩,rfl⟩:=he;refine⟨g,cap,cur',rfl,hge,hcell',by omega,s2,s3,?_⟩;have:cur'.toList.take ((compact zs).length*1)=(cur'.toList.take (zs.length*1)).take ((compact zs).length*1):=by rw[List.take_take];congr 1;omega
   rw[this,s4,List.map_append,Nat.mul_one,List.take_left' (by simp)]
theorem xP{w w':World}(h:Below w.heap.size w w'):Keep (λ_ _=>False) w w':=Keep.mZ (M:=λ_=>False) h.size (λb hb _=>h.block b hb) (λ_ _ h=>h)
set_option maxHeartbeats 4000000 in
set_option maxRecDepth 100000 in
theorem zAa(n:Nat):Pure qEr 16 Zy zJi (jB n):=by
 refine⟨by kernel_rfl,λx y hF w N xs hG hN hx=>?_⟩;obtain⟨sc,q,fs,b,u⟩:=x;obtain⟨v,rfl,hv⟩:∃ v,xs=[v]/\aO.bW w N (sc,q,fs,b,u) v:=hx;simp only[Ty.bW,show aO.isAgg=true from rfl,if_true]at hv;obtain⟨cs,rfl,hv⟩:=hv;obtain⟨c1,c2,rfl,hsc,c3,c4,rfl,hq,c5,c6,rfl,hfs,c7,c8,rfl,hb,hu⟩:=hv;have xHg:iH.bW w N sc (.agg c1.toArray):=by
  simp only[Ty.bW,show iH.isAgg=true from rfl,if_true];exact⟨c1,rfl,hsc⟩
 obtain⟨d1,d2,rfl,h1,d3,d4,rfl,h2,d5,d6,rfl,h3,h4⟩:=hsc;have xHh:=hfs;obtain⟨vp,rfl,_⟩:=h2;obtain⟨vc,rfl,_⟩:=h3;obtain⟨vf,rfl,_⟩:=hfs;obtain⟨pf,kf,rfl,_⟩:=Qm xHh;simp only[Ty.Rel]at h1 h4 hq hb hu;subst h1 h4 hq hb hu;simp only[List.nil_append,List.cons_append,List.append_nil]at xHg ⊢;unfold jB at hF;simp only at hF;have e25:∀ args w,(callFunc 25 args).run qEr w=.ok (.enter 25 args) w:=enters_of Tryz.func25 (by kernel_rfl) rfl;have e20:∀ args w,(callFunc 20 args).run qEr w=.ok (.enter 20 args) w:=enters_of Tryz.func20 (by kernel_rfl) rfl;have e26:∀ args w,(callFunc 26 args).run qEr w=.ok (.enter 26 args) w:=enters_of Tryz.func26 (by kernel_rfl) rfl;have e27:∀ args w,(callFunc 27 args).run qEr w=.ok (.enter 27 args) w:=enters_of Tryz.func27 (by kernel_rfl) rfl;cases hbv:(sc,q,fs,b,u).2.2.2.1 with
 |true =>
  simp only at hbv;subst hbv;simp only[br]at hF;obtain rfl:=qBc hF
  go_enter Tryz.func16,Tryz.ntmps16
  go_wp2
  go_ret2
  exact⟨[.slice none 0 0,.slice none 0 0],rfl,rfl,rfl,rfl,xP ((Below.refl _ _).alloc (aS _) _),_,_,rfl,⟨_,rfl,.inl ⟨rfl,rfl⟩⟩,_,rfl,⟨_,rfl,.inl ⟨rfl,rfl⟩⟩⟩
 |false =>
  simp only at hbv;subst hbv;simp only[br]at hF;obtain⟨z,hz,hF⟩:=zNs hF;obtain⟨hc,hF⟩:=iP hF;obtain rfl:=qBc hF;have hc:=bX hc;have xLr:=(zPb n).2 sc z hz
  go_enter Tryz.func16,Tryz.ntmps16
  have hB1:Below w.heap.size w (w.alloc (Obj.cells #[Value.bool sc.fst,vp,vc,Value.bool q,Value.slice pf fs.length kf,Value.bool false] 41)):=(Below.refl _ _).alloc (aS _) _;have hk1:=xP hB1;have nH:(w.alloc (Obj.cells #[Value.bool sc.fst,vp,vc,Value.bool q,Value.slice pf fs.length kf,Value.bool false] 41)).heap[w.heap.size]?=some (Obj.cells #[Value.bool sc.fst,vp,vc,Value.bool q,Value.slice pf fs.length kf,Value.bool false] 41):=heap_alloc_new w _;have cF:=xLr _ N _ (Glob.keep hG (λb hb=>hB1.block b hb)) (λb j h=>wD (hN b j h) hB1.size) (show nA _ N [iH] sc [_]from ⟨_,rfl,xHg.mono (hk1.weaken λ_ _ h=>h.elim) (λ_ _ _ h=>h)⟩);have HB1:Aside (Below w.heap.size w (w.alloc (Obj.cells #[Value.bool sc.fst,vp,vc,Value.bool q,Value.slice pf fs.length kf,Value.bool false] 41))/\(w.alloc (Obj.cells #[Value.bool sc.fst,vp,vc,Value.bool q,Value.slice pf fs.length kf,Value.bool false] 41)).heap[w.heap.size]?=some (Obj.cells #[Value.bool sc.fst,vp,vc,Value.bool q,Value.slice pf fs.length kf,Value.bool false] 41)):=⟨hB1,nH⟩;clear hB1 hk1 nH;have cF2:Calls qEr 25 #[Value.agg #[Value.bool sc.fst,vp,vc]] (w.alloc (Obj.cells #[Value.bool sc.fst,vp,vc,Value.bool q,Value.slice pf fs.length kf,Value.bool false] 41)) λe w'=>∃ p1 k1 u2,e=.returned (.tuple #[.slice p1 z.1.length k1,u2])/\Below w.heap.size w w'/\w'.cell? ⟨w.heap.size,4,none⟩=some (Value.slice pf fs.length kf)/\w.heap.size<w'.heap.size /\
   (Ty.slice .str).Rel w' N z.1 [.slice p1 z.1.length k1]/\(Ty.slice .str).Rel w' N z.2 [u2]/\(Ty.slice .str).Rel w' N fs [Value.slice pf fs.length kf]:=by
   refine cF.mono ?_;rintro e w2 ⟨us,rfl,o1,o2,o3,hk2,u1,us2,rfl,hr1,u2,rfl,hr2⟩;have hB2:=HB1.out.1.trans (⟨o1,o2,o3,hk2.1,λb hb=>hk2.2 b (wD hb HB1.out.1.size) λ_ h=>h⟩:Below w.heap.size _ w2);have hlt:=(qCk.1 HB1.out.2).1;obtain⟨p1,k1,rfl,_⟩:=Qm hr1;exact⟨p1,k1,u2,rfl,hB2,by simp only[World.cell?,(hk2.2 _ hlt λ_ h=>h).trans HB1.out.2];rfl,wD hlt hk2.1,hr1,hr2,xHh.mono ((xP hB2).weaken λ_ _ h=>h.elim) (λ_ _ _ h=>h)⟩
  clear cF
  go_wp2_with (go_at_fn 25;refine cF2.mono ?_;rintro e w2 ⟨p1,k1,u2,rfl,hB2,hc4,hlt,hr1,hr2,hr3⟩)
  have HR:Aside (Below w.heap.size w w2/\(Ty.slice .str).Rel w2 N z.1 [.slice p1 z.1.length k1]/\(Ty.slice .str).Rel w2 N z.2 [u2]/\(Ty.slice .str).Rel w2 N fs [Value.slice pf fs.length kf]):=⟨hB2,hr1,hr2,hr3⟩;clear hr1 hr2 hr3 hB2 cF2;have hB3:Below w2.heap.size w2 (w2.alloc (Obj.cells #[Value.slice p1 z.1.length k1,Value.slice pf fs.length kf] 32)):=(Below.refl _ _).alloc (aS _) _;have hnew:(w2.alloc (Obj.cells #[Value.slice p1 z.1.length k1,Value.slice pf fs.length kf] 32)).heap[w2.heap.size]?=some (Obj.cells #[Value.slice p1 z.1.length k1,Value.slice pf fs.length kf] 32):=heap_alloc_new w2 _;have cC:=zLv (w2.alloc (Obj.cells #[Value.slice p1 z.1.length k1,Value.slice pf fs.length kf] 32)) w2.heap.size 0 2 _ _ z.1 fs ((Qm HR.out.2.1).mono hB3.block) ((Qm HR.out.2.2.2).mono hB3.block) (by simp only[World.cell?,hnew];rfl) (by simp only[World.cell?,hnew];rfl) hc;have HB3:Aside (Below w2.heap.size w2 (w2.alloc (Obj.cells #[Value.slice p1 z.1.length k1,Value.slice pf fs.length kf] 32))):=hB3;clear hB3 hnew;generalize w2.alloc (Obj.cells #[Value.slice p1 z.1.length k1,Value.slice pf fs.length kf] 32)=w3 at cC HB3 ⊢;have hl:=Xa (z.1++fs);have hll:(tH (z.1++fs)).length=(z.1++fs).length:=hl.length_eq;have hcl:(z.1++fs).length<=1000000:=by rw[xG];exact hc
  go_wp2_with (go_at_fn 20;refine cC.mono ?_;rintro e w4 ⟨r4,rfl,ho4,hb4⟩)
  have cS:=yQw w4 w3.heap.size r4 _ ho4 hb4.size (by omega);have HB4:Aside (Below w3.heap.size w3 w4):=hb4;clear ho4 hb4 cC
  go_wp2_with (go_at_fn 26;refine cS.mono ?_;rintro e w5 ⟨rfl,ho5,hb5⟩)
  have cM:=yCj w5 w3.heap.size r4 (tH (z.1++fs)) (by rw[hll];exact ho5) (zG HB4.out.size hb5.size) (by omega);have HB5:Aside (Below w3.heap.size w4 w5):=hb5;clear ho5 hb5 cS
  go_wp2_with (go_at_fn 27;refine cM.mono ?_;rintro e w6 ⟨v6,rfl,ho6,hb6⟩)
  go_ret2
  have xLs:Below w3.heap.size w3 w6:=(HB4.out.trans HB5.out).trans hb6;have xHi:Below w2.heap.size w2 w6:=HB3.out.trans (xLs.mono HB3.out.size);have yQx:Below w.heap.size w w6:=HR.out.1.trans (xHi.mono HR.out.1.size);refine⟨[v6,u2],rfl,yQx.os,yQx.tape,yQx.output,xP yQx,v6,_,rfl,?_,u2,rfl,?_⟩
  ·exact zLu (w:=w3) (λb j hb hn=>by have:=hN b j hn;have h1:=HR.out.1.size;have h2:=HB3.out.size;omega) ho6
  ·exact HR.out.2.2.1.mono ((xP xHi).weaken λ_ _ h=>h.elim) (λ_ _ _ h=>h)
abbrev Uk:List Ty:=[.slice (.slice .str)]
abbrev Ul:List Ty:=[.slice .str]
theorem zDy(n:Nat):Pure qEr 20 Uk Ul (kI n):=by
 refine⟨by kernel_rfl,λx y hF w N xs hG hN hx=>?_⟩;obtain⟨a,b,rfl⟩:∃ a b,x=[a,b]:=by
  match x,hF with
  |[a,b],_=>exact⟨a,b,rfl⟩
  |[],h=>exact absurd h (by simp[kI])
  |[_],h=>exact absurd h (by simp[kI])
  |_::_::_::_,h=>exact absurd h (by simp[kI])
 unfold kI at hF;simp only at hF;obtain⟨hc,hF⟩:=iP hF;obtain rfl:=qBc hF;have hc:=bX hc;obtain⟨v,rfl,hv⟩:∃ v,xs=[v]/\(Ty.slice (.slice .str)).bW w N [a,b] v:=hx;simp only[Ty.bW,show(Ty.slice (.slice .str)).isAgg=false from rfl,Bool.false_eq_true,if_false]at hv;obtain⟨v',hv',hv⟩:=hv;obtain rfl:v=v':=by simpa using hv'
 rcases hv with ⟨_,h0⟩|⟨bb,oo,cap,css,rfl,hb,_,_,_,hall,_,hcells⟩|⟨_,_,_,h0,_⟩
 ·cases h0
 ·obtain⟨c1,xHj,rfl⟩:∃ c1 r,css=c1::r:=by cases css with|nil=>exact hall.elim|cons c r=>exact⟨c,r,rfl⟩
  obtain⟨h1,hall⟩:=hall;obtain⟨c2,xHk,rfl⟩:∃ c1 r,xHj=c1::r:=by cases xHj with|nil=>exact hall.elim|cons c r=>exact⟨c,r,rfl⟩
  obtain⟨h2,hall⟩:=hall;obtain rfl:xHk=[]:=by cases xHk with|nil=>rfl|cons c r=>exact hall.elim
  obtain⟨v1,rfl,h1⟩:=h1;obtain⟨v2,rfl,h2⟩:=h2;have q0:=hcells 0 v1 rfl;have q1:=hcells 1 v2 rfl;refine(zLv w bb oo cap v1 v2 a b (Qm ⟨v1,rfl,h1⟩) (Qm ⟨v2,rfl,h2⟩) q0 q1 hc).mono ?_;rintro e w' ⟨r,rfl,ho,hbl⟩;exact⟨[r],rfl,hbl.os,hbl.tape,hbl.output,xP hbl,r,rfl,zLu (w:=w) (λb j hb hn=>by have:=hN b j hn;omega) ho⟩
 ·cases h0
end Go.Dec
namespace Go.Dec
abbrev zSz:List OS:=[.box 41 [.v .bool,.v (.slice aU),.v (.slice aB),.v .bool,.v (.slice .str),.v .bool]]
open Go.Proofs
set_option linter.unusedVariables false
def xJu:Tab:=tab++[(22,⟨.slice 52,1,24,[.aZ],some (.slice qI),false⟩),(23,⟨.slice 41,1,24,[.aZ],some (.slice aO),false⟩),(41,⟨.struct [(0,39),(3,4),(4,32),(5,4)],6,96,[.val .bool false,.aZ,.aZ,.val .bool false,.aZ,.val .bool false],some aO,false⟩),(45,⟨.slice 4,1,24,[.aZ],some (.slice .bool),false⟩),(52,⟨.struct [(0,9),(1,32),(2,4)],3,48,[.val .str [],.aZ,.val .bool false],some qI,false⟩),(65,⟨.func,1,8,[.val .opq Value.nilFunc],some .opq,false⟩),(101,⟨.slice 32,1,24,[.aZ],some (.slice (.slice .str)),false⟩)]
theorem qB:bU qEr xJu:=Yc (by kernel_rfl)
theorem tO:qEr.follows .mixedOrders=true:=by kernel_rfl
abbrev zWr:List Ty:=[.slice qI]
abbrev zIc:List Ty:=[.slice aO,.bool]
abbrev Ov:List Ty:=[.slice .str,.str]
abbrev Cc:List Ty:=[.int .i64]
abbrev xJ:List Ty:=[.bool]
abbrev Mi:Sh:=⟨2,[⟨0,false,[.v .str]⟩,⟨1,false,[.ptr 0 0]⟩],[.box 32 [.v (.slice .str)]]⟩
abbrev Al:Sh:=⟨1,[⟨0,false,[.v .bool]⟩],[.box 32 [.v (.slice .str)]]⟩
abbrev mI:Sh:=⟨2,[⟨0,false,[.v (.slice .str)]⟩,⟨1,false,[.clo 35 [(0,0)]]⟩],[.box 32 [.v (.slice .str)]]⟩
abbrev gY:Sh:=⟨1,[⟨0,false,[.v (.int .i64)]⟩],[.box 32 [.v (.slice .str)]]⟩
abbrev zDz:List Ty:=[aO,aO]
abbrev zAb:Sh:=⟨2,[⟨0,true,[.v .bool,.v (.slice aU),.v (.slice aB),.v .bool,.v (.slice .str),.v .bool]⟩,⟨1,false,[.ptr 0 0]⟩],zSz⟩
abbrev Lg:Sh:=⟨1,[⟨0,false,[.v .bool]⟩],zSz⟩
abbrev qC:Sh:=⟨2,[⟨0,false,[.v (.slice aO)]⟩,⟨1,false,[.clo 24 [(0,0)]]⟩],zSz⟩
abbrev jW:Sh:=⟨1,[⟨0,false,[.v (.int .i64)]⟩],zSz⟩
abbrev Rf:List Ty:=[.slice aO]
abbrev Ie:List Ty:=[.slice .bool]
abbrev zEa:List Ty:=[.slice aO,.int .i64]
abbrev zMv:List Ty:=[]
def yKl (n:Nat):An (bT zIc):=(.mk .nil (.mk .nil (.mk (.mk .nil (.mk (.loop ⟨82,[⟨0,false,[.v (.slice qI)]⟩,⟨4,false,[.own 0]⟩,⟨5,false,[.v (.int .i64)]⟩],[.row 41 aO]⟩ [.keep (kbm 6 49),.gcA 0,.Ng 4 23,.gcA 0] [.keep (kbm 6 49),.gcA 0,.gcA 0] n (.mk .nil (.mk (.mk (.mk .nil (.mk (.mk .nil (.mk (.loop ⟨82,[⟨0,false,[.v (.slice qI)]⟩,⟨4,false,[.own 0]⟩,⟨5,false,[.v (.int .i64)]⟩,⟨6,false,[.v (.int .i64)]⟩],[.row 41 aO]⟩ [.keep (kbm 7 113),.gcA 0,.gcA 0] [.keep (kbm 7 113),.gcA 0,.gcA 0] n .nil) .nil []) []) .nil []) []) .nil []) .nil []) [])) .nil []) []) .nil []) []) [])
theorem zZi(n:Nat):Pure qEr 6 zWr zIc (Tj n):=
 bH (Γ:=bA _ [(17,bN Vj Kq (sV n))] []) (an:=yKl n) Tryz.func6 rfl (by kernel_rfl) qB (aG (all_cons (aN (Wj n)) (all_nil)) (aH)) tO (aF _ _ rfl) (λx=>by kernel_rfl)
def zFx (n:Nat):An (bT Cc):=(.mk .nil (.mk (.mk .nil (.mk (.loop ⟨19,[⟨0,false,[.v (.slice .str)]⟩,⟨1,false,[.v .str]⟩,⟨7,false,[.v (.int .i64)]⟩,⟨8,false,[.v (.int .i64)]⟩],[]⟩ [.keep (kbm 9 387),.gcA 0,.gcA 0] [.keep (kbm 9 387),.gcA 0,.gcA 0] n .nil) .nil []) []) .nil []) [])
theorem zAd(n:Nat):Pure qEr 56 Ov Cc (rD n):=
 bH (Γ:=bA _ [] []) (an:=zFx n) Tryz.func56 rfl (by kernel_rfl) qB (aG (all_nil) (aH)) tO (aF _ _ rfl) (λx=>by kernel_rfl)
def zAe (n:Nat):An (bT xJ) := .nil
theorem Um(n:Nat):Pure qEr 36 Ov xJ (sF n):=
 bH (Γ:=bA _ [(56,bN Ov Cc (rD n))] []) (an:=zAe n) Tryz.func36 rfl (by kernel_rfl) qB (aG (all_cons (aN (zAd n)) (all_nil)) (aH)) tO (aF _ _ rfl) (λx=>by kernel_rfl)
def zEb (n:Nat):An (Al.X) := .nil
theorem Vm(n:Nat):dV qEr 35 Mi Al (pR n):=
 dO (Γ:=bA _ [(36,bN Ov xJ (sF n))] []) (an:=zEb n) (co:=[.gc [0]]) Tryz.func35 rfl (by kernel_rfl) qB (aG (all_cons (aN (Um n)) (all_nil)) (aH)) tO (aF _ _ rfl) (by kernel_rfl) (by kernel_rfl) (λx=>by kernel_rfl)
def wY (n:Nat):An (gY.X):=(.mk .nil (.mk (.mk .nil (.mk (.loop ⟨19,[⟨0,false,[.v (.slice .str)]⟩,⟨1,false,[.clo 35 [(0,0)]]⟩,⟨7,false,[.v (.int .i64)]⟩,⟨8,false,[.v (.int .i64)]⟩],[.box 32 [.v (.slice .str)]]⟩ [.keep (kbm 9 387),.gcA 1,.gcA 1] [.keep (kbm 9 387),.gcA 1,.gcA 1] n .nil) .nil []) []) .nil []) [])
theorem uT(n:Nat):dV qEr 55 mI gY (dR n):=
 dO (Γ:=bA _ [(35,peM Mi Al (pR n))] []) (an:=wY n) (co:=[.gc [0]]) Tryz.func55 rfl (by kernel_rfl) qB (aG (all_cons (bF (Vm n)) (all_nil)) (aH)) tO (aF _ _ rfl) (by kernel_rfl) (by kernel_rfl) (λx=>by kernel_rfl)
def vI (n:Nat):An (Al.X) := .nil
theorem tC(n:Nat):dV qEr 34 mI Al (eY n):=
 dO (Γ:=bA _ [(55,peM mI gY (dR n))] []) (an:=vI n) (co:=[.gc [0]]) Tryz.func34 rfl (by kernel_rfl) qB (aG (all_cons (bF (uT n)) (all_nil)) (aH)) tO (aF _ _ rfl) (by kernel_rfl) (by kernel_rfl) (λx=>by kernel_rfl)
def zId (n:Nat):An (bT xJ) := .nil
theorem zBn(n:Nat):Pure qEr 19 zJi xJ (oG n):=
 bH (Γ:=bA _ [(34,peM mI Al (eY n))] []) (an:=zId n) Tryz.func19 rfl (by kernel_rfl) qB (aG (all_cons (bF (tC n)) (all_nil)) (aH)) tO (aF _ _ rfl) (λx=>by kernel_rfl)
def yHq (n:Nat):An (bT xJ) := .nil
theorem zCn(n:Nat):Pure qEr 9 zDz xJ (lV n):=
 bH (Γ:=bA _ [(16,bN Zy zJi (jB n)),(20,bN Uk Ul (kI n)),(19,bN zJi xJ (oG n))] []) (an:=yHq n) Tryz.func9 rfl (by kernel_rfl) qB (aG (all_cons (aN (zAa n)) (all_cons (aN (zDy n)) (all_cons (aN (zBn n)) (all_nil)))) (aH)) tO (aF _ _ rfl) (λx=>by kernel_rfl)
def zPc (n:Nat):An (Lg.X) := .nil
theorem zFy(n:Nat):dV qEr 24 zAb Lg (En n):=
 dO (Γ:=bA _ [(9,bN zDz xJ (lV n))] []) (an:=zPc n) (co:=[.gc [0]]) Tryz.func24 rfl (by kernel_rfl) qB (aG (all_cons (aN (zCn n)) (all_nil)) (aH)) tO (aF _ _ rfl) (by kernel_rfl) (by kernel_rfl) (λx=>by kernel_rfl)
def Ap (n:Nat):An (jW.X):=(.mk .nil (.mk (.mk .nil (.mk (.loop ⟨19,[⟨0,false,[.v (.slice aO)]⟩,⟨1,false,[.clo 24 [(0,0)]]⟩,⟨7,false,[.v (.int .i64)]⟩,⟨8,false,[.v (.int .i64)]⟩],zSz⟩ [.keep (kbm 9 387),.gcA 1,.gcA 1] [.keep (kbm 9 387),.gcA 1,.gcA 1] n .nil) .nil []) []) .nil []) [])
theorem yE(n:Nat):dV qEr 41 qC jW (gK n):=
 dO (Γ:=bA _ [(24,peM zAb Lg (En n))] []) (an:=Ap n) (co:=[.gc [0]]) Tryz.func41 rfl (by kernel_rfl) qB (aG (all_cons (bF (zFy n)) (all_nil)) (aH)) tO (aF _ _ rfl) (by kernel_rfl) (by kernel_rfl) (λx=>by kernel_rfl)
def zK (n:Nat):An (Lg.X) := .nil
theorem wM(n:Nat):dV qEr 23 qC Lg (eD n):=
 dO (Γ:=bA _ [(41,peM qC jW (gK n))] []) (an:=zK n) (co:=[.gc [0]]) Tryz.func23 rfl (by kernel_rfl) qB (aG (all_cons (bF (yE n)) (all_nil)) (aH)) tO (aF _ _ rfl) (by kernel_rfl) (by kernel_rfl) (λx=>by kernel_rfl)
def zWs (n:Nat):An (bT Ie):=(.mk .nil (.mk .nil (.mk (.mk .nil (.mk (.loop ⟨26,[⟨0,false,[.v (.slice aO)]⟩,⟨3,false,[.own 0]⟩,⟨9,false,[.v (.slice aO)]⟩,⟨10,false,[.v (.int .i64)]⟩,⟨11,false,[.v (.int .i64)]⟩],[.row 4 .bool]⟩ [.keep (kbm 12 3593),.gcA 0,.gcA 0] [.keep (kbm 12 3593),.gcA 0,.gcA 0] n .nil) .nil []) []) .nil []) []) [])
theorem Un(n:Nat):Pure qEr 12 Rf Ie (uD n):=
 bH (Γ:=bA _ [(23,peM qC Lg (eD n))] []) (an:=zWs n) Tryz.func12 rfl (by kernel_rfl) qB (aG (all_cons (bF (wM n)) (all_nil)) (aH)) tO (aF _ _ rfl) (λx=>by kernel_rfl)
def yHr (n:Nat):An (bT Cc):=(.mk .nil (.mk .nil (.mk (.mk .nil (.mk (.loop ⟨34,[⟨0,false,[.v (.slice aO)]⟩,⟨5,false,[.v (.int .i64)]⟩],[]⟩ [.keep (kbm 6 33),.gcA 0,.gcA 0] [.keep (kbm 6 33),.gcA 0,.gcA 0] n .nil) .nil []) []) .nil []) []) [])
theorem zCo(n:Nat):Pure qEr 14 zEa Cc (yA n):=
 bH (Γ:=bA _ [(16,bN Zy zJi (jB n))] []) (an:=yHr n) Tryz.func14 rfl (by kernel_rfl) qB (aG (all_cons (aN (zAa n)) (all_nil)) (aH)) tO (aF _ _ rfl) (λx=>by kernel_rfl)
def yCk (n:Nat):An (bT xJ):=(.mk .nil (.mk .nil (.mk .nil (.mk .nil (.mk (.co [.Yn 7,.Yn 25] .nil) .nil []) []) []) []) [])
theorem zTa(n:Nat):Pure qEr 7 zMv xJ (Dc n):=
 bH (Γ:=bA _ [(17,bN Vj Kq (sV n)),(12,bN Rf Ie (uD n)),(14,bN zEa Cc (yA n))] []) (an:=yCk n) Tryz.func7 rfl (by kernel_rfl) qB (aG (all_cons (aN (Wj n)) (all_cons (aN (Un n)) (all_cons (aN (zCo n)) (all_nil)))) (aH)) tO (aF _ _ rfl) (λx=>by kernel_rfl)
end Go.Dec
namespace Go.Dec
open Go.Proofs
set_option linter.unusedVariables false
def xJv:Tab:=xJu++[(27,⟨.slice 34,1,24,[.aZ],some (.slice aO),false⟩),(28,⟨.slice 89,1,24,[.aZ],some (.slice aU),false⟩),(29,⟨.slice 97,1,24,[.aZ],some (.slice aB),false⟩),(31,⟨.struct [(0,4),(1,28),(2,29)],3,56,[.val .bool false,.aZ,.aZ],some iH,false⟩),(34,⟨.struct [(0,31),(3,4),(4,32),(5,4)],6,96,[.val .bool false,.aZ,.aZ,.val .bool false,.aZ,.val .bool false],some aO,false⟩),(83,⟨.slice 131,1,24,[.aZ],some (.slice aT),false⟩),(89,⟨.struct [(0,83),(1,4)],2,32,[.aZ,.val .bool false],some aU,false⟩),(90,⟨.struct [(0,3),(1,3),(2,3)],3,24,[.val (.int .i64) 0,.val (.int .i64) 0,.val (.int .i64) 0],some Fh,true⟩),(93,⟨.struct [(0,90),(3,90),(6,4)],7,56,[.val (.int .i64) 0,.val (.int .i64) 0,.val (.int .i64) 0,.val (.int .i64) 0,.val (.int .i64) 0,.val (.int .i64) 0,.val .bool false],some rQ,true⟩),(94,⟨.slice 133,1,24,[.aZ],some (.slice iL),false⟩),(97,⟨.struct [(0,93),(7,5),(8,9),(9,9),(10,3),(11,3),(12,3),(13,94),(14,4),(15,4)],16,152,[.val (.int .i64) 0,.val (.int .i64) 0,.val (.int .i64) 0,.val (.int .i64) 0,.val (.int .i64) 0,.val (.int .i64) 0,.val .bool false,.val (.int .u8) 0,.val .str [],.val .str [],.val (.int .i64) 0,.val (.int .i64) 0,.val (.int .i64) 0,.aZ,.val .bool false,.val .bool false],some aB,false⟩),(122,⟨.arr 4 121,4,32,[.val (.arr 4 (.int .u64)) ([0,0,0,0])],some (.arr 4 (.int .u64)),true⟩),(128,⟨.arr 256 4,256,256,[.val (.arr 256 .bool) (qAf 256 false)],some (.arr 256 .bool),true⟩),(131,⟨.struct [(0,3),(1,122),(5,3),(6,3),(7,3),(8,3),(9,3)],10,80,[.val (.int .i64) 0,.val (.arr 4 (.int .u64)) ([0,0,0,0]),.val (.int .i64) 0,.val (.int .i64) 0,.val (.int .i64) 0,.val (.int .i64) 0,.val (.int .i64) 0],some aT,true⟩),(133,⟨.struct [(0,9),(1,3)],2,24,[.val .str [],.val (.int .i64) 0],some iL,true⟩)]
theorem kL:bU qEr xJv:=Yc (by kernel_rfl)
theorem nG:qEr.follows .mixedOrders=true:=by kernel_rfl
abbrev zQy:List Ty:=[.arr 4 (.int .u64)]
abbrev zEc:List Ty:=[.arr 256 .bool]
abbrev zMx:List Ty:=[.slice aT]
abbrev zWt:List Ty:=[Fh]
abbrev zMy:List Ty:=[.slice iL]
abbrev zQz:List Ty:=[.slice .bool,.slice .bool]
abbrev zTb:List Ty:=[.slice qI,.int .i64]
def yHs (n:Nat):An (bT zEc):=(.mk .nil (.mk .nil (.mk (.mk .nil (.mk (.loop ⟨27,[⟨1,false,[.ptr 0 0]⟩,⟨2,false,[.ptr 1 0]⟩,⟨3,false,[.ptr 2 0]⟩,⟨4,false,[.v (.int .i64)]⟩],[.box 122 [.v (.arr 4 (.int .u64))],.box 128 [.v (.arr 256 .bool)],.box 128 [.v (.arr 256 .bool)]]⟩ [.keep [false,true,true,true,true],.gcA 0,.gcA 0] [.keep [false,true,true,true,true],.gcA 0,.gcA 0] n .nil) .nil []) []) .nil []) []) [])
theorem zWw(n:Nat):Pure qEr 54 zQy zEc (Nn n):=
 bH (Γ:=bA _ [] []) (an:=yHs n) Tryz.func54 rfl (by kernel_rfl) kL (aG (all_nil) (aH)) nG (aF _ _ rfl) (λx=>by kernel_rfl)
def yCl (n:Nat):An (bT zQy):=(.mk .nil (.mk .nil (.mk (.mk .nil (.mk (.loop ⟨28,[⟨1,false,[.ptr 0 0]⟩,⟨2,false,[.ptr 1 0]⟩,⟨3,false,[.ptr 2 0]⟩,⟨4,false,[.v (.int .i64)]⟩],[.box 128 [.v (.arr 256 .bool)],.box 122 [.v (.arr 4 (.int .u64))],.box 122 [.v (.arr 4 (.int .u64))]]⟩ [.keep [false,true,true,true,true],.gcA 0,.gcA 0] [.keep [false,true,true,true,true],.gcA 0,.gcA 0] n .nil) .nil []) []) .nil []) []) [])
theorem zTc(n:Nat):Pure qEr 53 zEc zQy (Jp n):=
 bH (Γ:=bA _ [] []) (an:=yCl n) Tryz.func53 rfl (by kernel_rfl) kL (aG (all_nil) (aH)) nG (aF _ _ rfl) (λx=>by kernel_rfl)
def yCm (n:Nat):An (bT zMx):=(.mk .nil (.mk .nil (.mk (.mk .nil (.mk (.loop ⟨38,[⟨0,false,[.v (.slice aT)]⟩,⟨3,false,[.own 0]⟩,⟨4,false,[.v (.int .i64)]⟩],[.row 131 aT]⟩ [.keep [true,false,false,true,true],.gcA 0,.Ng 3 83,.gcA 0] [.keep [true,false,false,true,true],.gcA 0,.gcA 0] n .nil) .nil []) []) .nil []) []) [])
theorem zTd(n:Nat):Pure qEr 31 zMx zMx (Jr n):=
 bH (Γ:=bA _ [(54,bN zQy zEc (Nn n)),(53,bN zEc zQy (Jp n))] []) (an:=yCm n) Tryz.func31 rfl (by kernel_rfl) kL (aG (all_cons (aN (zWw n)) (all_cons (aN (zTc n)) (all_nil))) (aH)) nG (aF _ _ rfl) (λx=>by kernel_rfl)
def yKm (n:Nat):An (bT zWt) := .nil
theorem zZj(n:Nat):Pure qEr 32 zWt zWt (Tm n):=
 bH (Γ:=bA _ [] []) (an:=yKm n) Tryz.func32 rfl (by kernel_rfl) kL (aG (all_nil) (aH)) nG (aF _ _ rfl) (λx=>by kernel_rfl)
def yCn (n:Nat):An (bT zMy):=(.mk .nil (.mk .nil (.mk (.mk .nil (.mk (.loop ⟨20,[⟨0,false,[.v (.slice iL)]⟩,⟨3,false,[.own 0]⟩,⟨4,false,[.v (.int .i64)]⟩],[.row 133 iL]⟩ [.keep [true,false,false,true,true],.gcA 0,.Ng 3 94,.gcA 0] [.keep [true,false,false,true,true],.gcA 0,.gcA 0] n .nil) .nil []) []) .nil []) []) [])
theorem zTe(n:Nat):Pure qEr 33 zMy zMy (Js n):=
 bH (Γ:=bA _ [] []) (an:=yCn n) Tryz.func33 rfl (by kernel_rfl) kL (aG (all_nil) (aH)) nG (aF _ _ rfl) (λx=>by kernel_rfl)
def yKn (n:Nat):An (bT yCi):=(.mk .nil (.mk .nil (.mk (.mk .nil (.mk (.loop ⟨88,[⟨1,false,[.ptr 0 0]⟩,⟨2,false,[.ptr 1 0]⟩,⟨3,false,[.ptr 2 0]⟩,⟨4,false,[.v (.int .i64)]⟩],[.box 39 [.v .bool,.v (.slice aU),.v (.slice aB)],.box 31 [.v .bool,.own 3,.own 4],.box 31 [.v .bool,.own 5,.own 6],.row 89 aU,.row 97 aB,.row 89 aU,.row 97 aB]⟩ [.keep [false,true,true,true,true],.gcA 0,.ownB 1 1 28,.ownB 1 2 29,.ownB 2 1 28,.ownB 2 2 29,.gcA 0] [.keep [false,true,true,true,true],.gcA 0,.gcA 0] n .nil) .nil []) []) (.mk (.mk .nil (.mk (.loop ⟨88,[⟨1,false,[.ptr 0 0]⟩,⟨2,false,[.ptr 1 0]⟩,⟨3,false,[.ptr 2 0]⟩,⟨5,false,[.v (.int .i64)]⟩],[.box 39 [.v .bool,.v (.slice aU),.v (.slice aB)],.box 31 [.v .bool,.own 3,.own 4],.box 31 [.v .bool,.own 5,.own 6],.row 89 aU,.row 97 aB,.row 89 aU,.row 97 aB]⟩ [.keep (kbm 6 46),.gcA 0,.gcA 0] [.keep (kbm 6 46),.gcA 0,.gcA 0] n .nil) .nil []) []) .nil []) []) []) [])
theorem zZk(n:Nat):Pure qEr 18 yCi yCi (Tn n):=
 bH (Γ:=bA _ [(31,bN zMx zMx (Jr n)),(32,bN zWt zWt (Tm n)),(33,bN zMy zMy (Js n))] []) (an:=yKn n) Tryz.func18 rfl (by kernel_rfl) kL (aG (all_cons (aN (zTd n)) (all_cons (aN (zZj n)) (all_cons (aN (zTe n)) (all_nil)))) (aH)) nG (aF _ _ rfl) (λx=>by kernel_rfl)
def zZl (n:Nat):An (bT Zy) := .nil
theorem zPd(n:Nat):Pure qEr 8 Zy Zy (Fq n):=
 bH (Γ:=bA _ [(18,bN yCi yCi (Tn n))] []) (an:=zZl n) Tryz.func8 rfl (by kernel_rfl) kL (aG (all_cons (aN (zZk n)) (all_nil)) (aH)) nG (aF _ _ rfl) (λx=>by kernel_rfl)
def yCo (n:Nat):An (bT Ul):=(.mk .nil (.mk .nil (.mk .nil (.mk (.mk .nil (.mk (.loop ⟨51,[⟨0,false,[.v (.slice .str)]⟩,⟨1,false,[.v .str]⟩,⟨5,false,[.own 0]⟩,⟨6,false,[.v .bool]⟩,⟨7,false,[.v (.int .i64)]⟩],[.row 9 .str]⟩ [.keep (kbm 8 227),.gcA 0,.Ng 5 32,.gcA 0] [.keep (kbm 8 227),.gcA 0,.gcA 0] n .nil) .nil []) []) .nil []) []) []) [])
theorem zTf(n:Nat):Pure qEr 57 Ov Ul (yU n):=
 bH (Γ:=bA _ [] []) (an:=yCo n) Tryz.func57 rfl (by kernel_rfl) kL (aG (all_nil) (aH)) nG (aF _ _ rfl) (λx=>by kernel_rfl)
def yCp (n:Nat):An (bT zJi):=(.mk .nil (.mk .nil (.mk .nil (.mk (.mk .nil (.mk (.loop ⟨45,[⟨1,false,[.ptr 0 0]⟩,⟨4,false,[.v (.slice .str)]⟩,⟨5,false,[.v (.slice .str)]⟩,⟨6,false,[.v (.int .i64)]⟩],[.box 31 [.v .bool,.v (.slice aU),.v (.slice aB)]]⟩ [.keep (kbm 7 114),.gcA 0,.Yn 4,.Yn 5,.gcA 0] [.keep (kbm 7 114),.gcA 0,.Yn 4,.Yn 5,.gcA 0] n (.mk .nil (.mk (.mk (.mk .nil (.mk (.mk .nil (.mk (.co [.Yn 4] .nil) (.mk .nil (.mk (.co [.Yn 5] .nil) .nil []) []) []) []) .nil []) []) .nil []) .nil []) [])) .nil []) []) .nil []) []) []) [])
theorem zTg(n:Nat):Pure qEr 38 yCi zJi (Jt n):=
 bH (Γ:=bA _ [(57,bN Ov Ul (yU n))] []) (an:=yCp n) Tryz.func38 rfl (by kernel_rfl) kL (aG (all_cons (aN (zTf n)) (all_nil)) (aH)) nG (aF _ _ rfl) (λx=>by kernel_rfl)
def yCq (n:Nat):An (bT Ul):=(.mk .nil (.mk .nil (.mk .nil (.mk (.mk .nil (.mk (.loop ⟨49,[⟨0,false,[.v (.slice .str)]⟩,⟨1,false,[.v .str]⟩,⟨5,false,[.own 0]⟩,⟨6,false,[.v .bool]⟩,⟨7,false,[.v (.int .i64)]⟩],[.row 9 .str]⟩ [.keep (kbm 8 227),.gcA 0,.Ng 5 32,.gcA 0] [.keep (kbm 8 227),.gcA 0,.gcA 0] n .nil) .nil []) []) .nil []) []) []) [])
theorem zTh(n:Nat):Pure qEr 39 Ov Ul (Ju n):=
 bH (Γ:=bA _ [] []) (an:=yCq n) Tryz.func39 rfl (by kernel_rfl) kL (aG (all_nil) (aH)) nG (aF _ _ rfl) (λx=>by kernel_rfl)
def yCr (n:Nat):An (bT zJi):=(.mk .nil (.mk .nil (.mk .nil (.mk (.mk .nil (.mk (.loop ⟨31,[⟨1,false,[.ptr 0 0]⟩,⟨4,false,[.v (.slice .str)]⟩,⟨5,false,[.v (.slice .str)]⟩,⟨6,false,[.v (.int .i64)]⟩],[.box 34 [.v .bool,.v (.slice aU),.v (.slice aB),.v .bool,.v (.slice .str),.v .bool]]⟩ [.keep (kbm 7 114),.gcA 0,.gcA 0] [.keep (kbm 7 114),.gcA 0,.gcA 0] n .nil) .nil []) []) .nil []) []) []) [])
theorem zAp(n:Nat):Pure qEr 21 Zy zJi (pE n):=
 bH (Γ:=bA _ [(38,bN yCi zJi (Jt n)),(39,bN Ov Ul (Ju n))] []) (an:=yCr n) Tryz.func21 rfl (by kernel_rfl) kL (aG (all_cons (aN (zTg n)) (all_cons (aN (zTh n)) (all_nil))) (aH)) nG (aF _ _ rfl) (λx=>by kernel_rfl)
def yKo (n:Nat):An (bT xJ):=(.mk .nil (.mk (.mk .nil (.mk (.loop ⟨18,[⟨0,false,[.v (.slice .str)]⟩,⟨1,false,[.v .str]⟩,⟨5,false,[.v (.int .i64)]⟩],[]⟩ [.keep (kbm 6 35),.gcA 0,.gcA 0] [.keep (kbm 6 35),.gcA 0,.gcA 0] n .nil) .nil []) []) .nil []) [])
theorem zZm(n:Nat):Pure qEr 40 Ov xJ (Ma n):=
 bH (Γ:=bA _ [] []) (an:=yKo n) Tryz.func40 rfl (by kernel_rfl) kL (aG (all_nil) (aH)) nG (aF _ _ rfl) (λx=>by kernel_rfl)
def zZn (n:Nat):An (bT xJ):=(.mk .nil (.mk (.mk .nil (.mk (.loop ⟨18,[⟨0,false,[.v (.slice .str)]⟩,⟨1,false,[.v (.slice .str)]⟩,⟨5,false,[.v (.int .i64)]⟩],[]⟩ [.keep (kbm 6 35),.gcA 0,.gcA 0] [.keep (kbm 6 35),.gcA 0,.gcA 0] n .nil) .nil []) []) .nil []) [])
theorem zPe(n:Nat):Pure qEr 22 zJi xJ (sW n):=
 bH (Γ:=bA _ [(40,bN Ov xJ (Ma n))] []) (an:=zZn n) Tryz.func22 rfl (by kernel_rfl) kL (aG (all_cons (aN (zZm n)) (all_nil)) (aH)) nG (aF _ _ rfl) (λx=>by kernel_rfl)
def yCs (n:Nat):An (bT xJ) := .nil
theorem zAq(n:Nat):Pure qEr 10 zDz xJ (vK n):=
 bH (Γ:=bA _ [(21,bN Zy zJi (pE n)),(22,bN zJi xJ (sW n))] []) (an:=yCs n) Tryz.func10 rfl (by kernel_rfl) kL (aG (all_cons (aN (zAp n)) (all_cons (aN (zPe n)) (all_nil))) (aH)) nG (aF _ _ rfl) (λx=>by kernel_rfl)
def zTi (n:Nat):An (bT Ie):=(.mk .nil (.mk .nil (.mk (.mk .nil (.mk (.loop ⟨39,[⟨0,false,[.v (.slice aO)]⟩,⟨3,false,[.own 0]⟩,⟨4,false,[.v (.int .i64)]⟩],[.row 4 .bool]⟩ [.keep [true,false,false,true,true],.gcA 0,.gcA 0] [.keep [true,false,false,true,true],.gcA 0,.gcA 0] n (.mk .nil (.mk (.mk (.mk .nil (.mk (.loop ⟨39,[⟨0,false,[.v (.slice aO)]⟩,⟨3,false,[.own 0]⟩,⟨4,false,[.v (.int .i64)]⟩,⟨5,false,[.v (.int .i64)]⟩],[.row 4 .bool]⟩ [.keep (kbm 6 57),.gcA 0,.gcA 0] [.keep (kbm 6 57),.gcA 0,.gcA 0] n .nil) .nil []) []) .nil []) .nil []) [])) .nil []) []) .nil []) []) [])
theorem zKb(n:Nat):Pure qEr 13 Rf Ie (Ab n):=
 bH (Γ:=bA _ [(10,bN zDz xJ (vK n))] []) (an:=zTi n) Tryz.func13 rfl (by kernel_rfl) kL (aG (all_cons (aN (zAq n)) (all_nil)) (aH)) nG (aF _ _ rfl) (λx=>by kernel_rfl)
def yHt (n:Nat):An (bT xJ):=(.mk .nil (.mk .nil (.mk (.mk .nil (.mk (.loop ⟨26,[⟨0,false,[.v (.slice .bool)]⟩,⟨1,false,[.v (.slice .bool)]⟩,⟨5,false,[.v (.int .i64)]⟩],[]⟩ [.keep (kbm 6 35),.gcA 0,.gcA 0] [.keep (kbm 6 35),.gcA 0,.gcA 0] n .nil) .nil []) []) .nil []) []) [])
theorem zWx(n:Nat):Pure qEr 11 zQz xJ (Hw n):=
 bH (Γ:=bA _ [] []) (an:=yHt n) Tryz.func11 rfl (by kernel_rfl) kL (aG (all_nil) (aH)) nG (aF _ _ rfl) (λx=>by kernel_rfl)
def yCt (n:Nat):An (bT Cc):=(.mk .nil (.mk .nil (.mk (.mk .nil (.mk (.loop ⟨34,[⟨0,false,[.v (.slice aO)]⟩,⟨5,false,[.v (.int .i64)]⟩],[]⟩ [.keep (kbm 6 33),.gcA 0,.gcA 0] [.keep (kbm 6 33),.gcA 0,.gcA 0] n .nil) .nil []) []) .nil []) []) [])
theorem zTj(n:Nat):Pure qEr 15 zEa Cc (Jv n):=
 bH (Γ:=bA _ [(21,bN Zy zJi (pE n))] []) (an:=yCt n) Tryz.func15 rfl (by kernel_rfl) kL (aG (all_cons (aN (zAp n)) (all_nil)) (aH)) nG (aF _ _ rfl) (λx=>by kernel_rfl)
def zPf (n:Nat):An (bT xJ):=(.mk .nil (.mk .nil (.mk (.join ⟨83,[⟨1,false,[.v (.int .i64)]⟩,⟨5,false,[.v (.slice aO)]⟩],[]⟩ [.keep (kbm 6 34),.gcA 0] .nil) (.mk .nil (.mk (.mk .nil (.mk (.loop ⟨83,[⟨1,false,[.v (.int .i64)]⟩,⟨5,false,[.v (.slice aO)]⟩,⟨7,false,[.own 0]⟩,⟨8,false,[.v (.int .i64)]⟩],[.row 34 aO]⟩ [.keep (kbm 9 418),.gcA 0,.Ng 7 27,.gcA 0] [.keep (kbm 9 418),.gcA 0,.gcA 0] n .nil) .nil []) []) (.mk (.mk .nil (.mk (.loop ⟨83,[⟨1,false,[.v (.int .i64)]⟩,⟨5,false,[.v (.slice aO)]⟩,⟨7,false,[.own 0]⟩,⟨9,false,[.v (.int .i64)]⟩],[.row 34 aO]⟩ [.keep (kbm 10 674),.gcA 0,.gcA 0] [.keep (kbm 10 674),.gcA 0,.gcA 0] n (.mk .nil (.mk (.mk (.mk .nil (.mk (.loop ⟨83,[⟨1,false,[.v (.int .i64)]⟩,⟨5,false,[.v (.slice aO)]⟩,⟨7,false,[.own 0]⟩,⟨9,false,[.v (.int .i64)]⟩,⟨10,false,[.v (.int .i64)]⟩],[.row 34 aO]⟩ [.keep (kbm 11 1698),.gcA 0,.gcA 0] [.keep (kbm 11 1698),.gcA 0,.gcA 0] n .nil) .nil []) []) .nil []) .nil []) [])) .nil []) []) (.mk (.co [.Yn 7] .nil) .nil []) []) []) []) []) []) [])
theorem zGf(n:Nat):Pure qEr 3 zTb xJ (Oe n):=
 bH (Γ:=bA _ [(6,bN zWr zIc (Tj n)),(7,bN zMv xJ (Dc n)),(8,bN Zy Zy (Fq n)),(9,bN zDz xJ (lV n)),(10,bN zDz xJ (vK n)),(12,bN Rf Ie (uD n)),(13,bN Rf Ie (Ab n)),(11,bN zQz xJ (Hw n)),(14,bN zEa Cc (yA n)),(15,bN zEa Cc (Jv n))] []) (an:=zPf n) Tryz.func3 rfl (by kernel_rfl) kL (aG (all_cons (aN (zZi n)) (all_cons (aN (zTa n)) (all_cons (aN (zPd n)) (all_cons (aN (zCn n)) (all_cons (aN (zAq n)) (all_cons (aN (Un n)) (all_cons (aN (zKb n)) (all_cons (aN (zWx n)) (all_cons (aN (zCo n)) (all_cons (aN (zTj n)) (all_nil))))))))))) (aH)) nG (aF _ _ rfl) (λx=>by kernel_rfl)
end Go.Dec
namespace Go.Dec
def Ans {α:Type} (o:Option α) (Q:α->Prop):Prop := ∃ y,o = some y ∧ Q y
variable {α β γ ρ:Type}{Q:ρ->Prop}
theorem Ans.some{y:ρ}(h:Q y):Ans (Option.some y) Q:=⟨y,rfl,h⟩
theorem Ans.chk{b:Bool}{r:Option ρ}(hb:b=true)(h:Ans r Q):Ans (chk b r) Q:=by subst hb;exact h
theorem Ans.br{b:Bool}{x y:Option ρ}(h1:b=true->Ans x Q)(h2:b=false->Ans y Q):Ans (br b x y) Q:=by
 cases b
 ·exact h2 rfl
 ·exact h1 rfl
theorem Ans.ob{o:Option α}{k:α->Option ρ}(P:α->Prop)(h:Ans o P)(hk:∀ y,P y->Ans (k y) Q):Ans (ob o k) Q:=by
 obtain⟨y,rfl,hy⟩:=h;exact hk y hy
theorem Ans.ob2{o:Option (Sum α γ)}{k:α->Option ρ}{k':γ->Option ρ}(P:α->Prop)(P':γ->Prop)(h:Ans o (λs=>(∀ y,s=.inl y->P y)/\∀ z,s=.inr z->P' z))(hk:∀ y,P y->Ans (k y) Q)(hk':∀ y,P' y->Ans (k' y) Q):Ans (ob2 o k k') Q:=by
 obtain⟨y,rfl,h1,h2⟩:=h;cases y with
 |inl y=>exact hk y (h1 y rfl)
 |inr z=>exact hk' z (h2 z rfl)
theorem Ans.mono{o:Option ρ}{P:ρ->Prop}(h:Ans o P)(hp:∀ y,P y->Q y):Ans o Q:=by
 obtain⟨y,hy,h⟩:=h;exact⟨y,hy,hp y h⟩
theorem Ans.loop{B:(α->Option ρ)->α->Option ρ}(I:α->Prop)(m:α->Nat)(h:∀ r x,I x->(∀ y,I y->m y<m x->Ans (r y) Q)->Ans (B r x) Q):∀ n x,I x->m x<n->Ans (Go.Dec.fix B n x) Q
 |0,x,_,hm=>absurd hm (Nat.not_lt_zero _)
 |n+1,x,hI,hm=>h (fix B n) x hI λy hy hlt=>Ans.loop I m h n y hy (by omega)
end Go.Dec
