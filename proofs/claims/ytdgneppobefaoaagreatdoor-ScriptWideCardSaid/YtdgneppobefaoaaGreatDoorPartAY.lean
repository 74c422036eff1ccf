/- Part of a proof over this seat: a library of my own, and what it says of this seat. No statement is proved here. -/
import Derived.Test.YtdgneppobefaoaaGreatDoorPartAX
import Derived.Test.YtdgneppobefaoaaGreatDoorPartAJ
import Derived.Test.YtdgneppobefaoaaGreatDoorPartAK
namespace Go.Ce
def lkG (f:Nat):List (Nat × Gv)->Option Gv
 | []=>none
 | p :: r=>cnd (Nat.beq f p.1) (some p.2) (lkG f r)
theorem zFu {f:Nat} {g:Gv}:∀ {l:List (Nat × Gv)},lkG f l=some g->(f,g) ∈ l
 | p :: r,h=>by
  unfold lkG cnd at h
  split at h
  ·rename_i hc
   simp only [aA] at h
   have:=aG hc
   subst this h
   exact .head _
  ·exact .tail _ (zFu h)
def lkT (f:Nat):List (Nat × TypeId × AV)->Option (TypeId × AV)
 | []=>none
 | p :: r=>cnd (Nat.beq f p.1) (some p.2) (lkT f r)
theorem zFv {f:Nat} {g:TypeId × AV}:∀ {l:List (Nat × TypeId × AV)},lkT f l=some g->(f,g) ∈ l
 | p :: r,h=>by
  unfold lkT cnd at h
  split at h
  ·rename_i hc
   simp only [aA] at h
   have:=aG hc
   subst this h
   exact .head _
  ·exact .tail _ (zFv h)
def zKc (ds:List (Nat × AV)) (all:List Nat):Gv:=fun _ A xs=>match xs with
 | []=>ck (Nat.blt A.nx big) (fN (A.nx+1) fun n=>some (.mp A.nx,⟨A.H.put A.nx (some (.dict .u8 ds all)),n⟩))
 | _=>none
theorem zQo {P:Program} {f:FuncId} {ds:List (Nat × AV)} {all:List Nat} (hk:∀ lo A,A.nx < big->cZ P lo f [] A (.ret (.mp A.nx)) ⟨A.H.put A.nx (some (.dict .u8 ds all)),A.nx+1⟩)
  (lo:Nat) (A:W) (args:List AV) (v:AV) (A':W) (h:zKc ds all lo A args=some (v,A')):cZ P lo f args A (.ret v) A':=by
 unfold zKc at h
 split at h
 ·replace h:=aM h; obtain ⟨hc,h⟩:=h
  rw [eD] at h
  simp only [aA,aB] at h
  obtain ⟨rfl,rfl⟩:=h
  rw [Nat.blt_eq] at hc
  exact hk lo A hc
 ·cases h
def zKd (x:Option (Out × W)):Option Bool:=match x with | some (.ret (.bo b),_)=>some b | _=>none
theorem zNa {x:Option (Out × W)} {b:Bool} (h:zKd x=some b):∃ A,x=some (.ret (.bo b),A):=by
 unfold zKd at h
 split at h
 ·simp only [aA] at h; subst h; exact ⟨_,rfl⟩
 ·cases h
open Go.Dec (Pure Keep fK) in
theorem zEu {E:Env} (hE:fA E) {k:Nat} {f:FuncId} {b:Bool} (hb:fK E.P f=true) (h:zKd (zH E (run E k) 0 f [] ⟨.nil,0⟩)=some b):Pure E.P f [] [.bool] (fun _=>some b):=by
 obtain ⟨A',h⟩:=zNa h
 refine ⟨hb,fun x y hxy w N xs _ _ hx=>?_⟩
 simp only [aA] at hxy
 subst hxy
 simp only [Go.Dec.DensRel] at hx
 subst hx
 obtain ⟨_,hc⟩:=Gl hE (uM hE k) h noB w [] (Gr w) rfl
 refine hc.mono fun e w' ⟨β',hg,ho⟩=>?_
 obtain ⟨y,rfl,hy⟩:=ho
 simp only [AV.Rel] at hy
 subst hy
 have hk:∀ j,j < w.heap.size->w'.heap[j]?=w.heap[j]?:=hg.none_old
 refine ⟨[.bool b],rfl,hg.os,hg.tape,hg.output,Keep.qU (M:=fun _=>False) hg.size (fun j hj _=>hk j hj) (fun _ _ h=>h),?_⟩
 exact ⟨_,rfl,rfl⟩
end Go.Ce
namespace Go.Ce
mutual
def AV.ren (m:Nat->Option Nat):AV->Option AV
 | .pt i o=>ob (m i) fun j=>some (.pt j o)
 | .sl i o l c s e=>ob (m i) fun j=>some (.sl j o l c s e)
 | .mp _=>none
 | .fn f fs cs=>ob (AV.pW m fs) fun fs=>ob (AV.pW m cs) fun cs=>some (.fn f fs cs)
 | .ic t v=>ob (AV.ren m v) fun v=>some (.ic t v)
 | .ag l=>ob (AV.pW m l) fun l=>some (.ag l)
 | .tu l=>ob (AV.pW m l) fun l=>some (.tu l)
 | v=>some v
def AV.pW (m:Nat->Option Nat):List AV->Option (List AV)
 | []=>some []
 | a :: r=>ob (AV.ren m a) fun a=>ob (AV.pW m r) fun r=>some (a :: r)
end
mutual
def AV.ids:AV->List Nat
 | .pt i _=>[i]
 | .sl i _ _ _ _ _=>[i]
 | .mp i=>[i]
 | .fn _ fs cs=>AV.uU fs++AV.uU cs
 | .ic _ v=>AV.ids v
 | .ag l=>AV.uU l
 | .tu l=>AV.uU l
 | _=>[]
def AV.uU:List AV->List Nat
 | []=>[]
 | a :: r=>AV.ids a++AV.uU r
end
def reach (H:T Blk) (k:Nat):List Nat->List Nat->List Nat :=
 @Nat.rec (fun _=>List Nat->List Nat->List Nat) (fun _ seen=>seen) (fun _ ih todo seen=>match todo with
  | []=>seen
  | i :: r=>cnd (tC i seen) (ih r seen) (match H.get i with
   | some (.cells cs _ _ _)=>ih (AV.uU cs++r) (seen++[i])
   | _=>ih r seen)) k
def Env.more (E:Env) (f:FuncId) (g:Gv):Env:={ E with giv:=fun k=>cnd (Nat.beq k f) (some g) (E.giv k) }
theorem fA.more {E:Env} (hE:fA E) {f:FuncId} {g:Gv} (h:∀ lo A args v A',g lo A args=some (v,A')->cZ E.P lo f args A (.ret v) A'):fA (E.more f g) where
 I:=hE.I
 F:=hE.F
 giv:=fun k g' hk=>by
  simp only [Env.more,cnd] at hk
  split at hk
  ·rename_i hc
   simp only [aA] at hk
   have:=aG hc
   subst this hk
   exact h
  ·exact hE.giv k g' hk
 tri:=hE.tri
 mixed:=hE.mixed
end Go.Ce
namespace Go.Ce
open Go.Dec (Ty dD DensRel aQ Kv Keep Pure fK lM Cells)
def rt (s:List UInt8):List UInt8:=(s.map UInt8.toNat).map UInt8.ofNat
theorem rt_eq (s:List UInt8):rt s=s:=by
 unfold rt
 rw [List.map_map]
 induction s with
 | nil=>rfl
 | cons a s ih=>simp at ih ⊢; exact ih
def Qb {α:Type} (f:List AV->Option (α × List AV)):Nat->List AV->Option (List α × List AV) :=
 @Nat.rec (fun _=>List AV->Option (List α × List AV)) (fun l=>some ([],l)) (fun _ ih l=>ob (f l) fun p=>ob (ih p.2) fun q=>some (p.1 :: q.1,q.2))
def zCr {α:Type}:List α->Bool | []=>true | _=>false
def nY (H:T Blk):(t:Ty)->List AV->Option (t.den × List AV)
 | .unit,l=>some ((),l)
 | .bool,l=>match l with | .bo b :: r=>some (b,r) | _=>none
 | .int k,l=>match l with | .it k' n :: r=>cnd (decide (k=k')) (some (n,r)) none | _=>none
 | .str,l=>match l with | .st s :: r=>some (s.map UInt8.ofNat,r) | _=>none
 | .err,l=>match l with | .ni :: r=>some (false,r) | .ic _ _ :: r=>some (true,r) | _=>none
 | .opq,_=>none
 | .clip _,_=>none
 | .pair a b,l=>ob (nY H a l) fun p=>ob (nY H b p.2) fun q=>some ((p.1,q.1),q.2)
 | .arr n a,l=>Qb (nY H a) n l
 | .slice a,l=>match l with
  | .ns :: r=>some ([],r)
  | .se _ :: r=>some ([],r)
  | .sl id off len cap _ _ :: r=>match H.get id with
   | some (.cells cs _ _ _)=>ob (tk (len * a.size) (drp off cs)) fun l=>ob (Qb (nY H a) len l) fun q=>cnd (zCr q.2) (some (q.1,r)) none
   | some (.ro cs)=>ob (tk (len * a.size) (drp off cs)) fun l=>ob (Qb (nY H a) len l) fun q=>cnd (zCr q.2) (some (q.1,r)) none
   | _=>none
  | _=>none
def zQp (H:T Blk) (β:Bt) (w:World) (N:Nat->Nat->Prop):Prop :=
 ∀ id cs,((∃ cls top shr,H.get id=some (.cells cs cls top shr))∨H.get id=some (.ro cs))->∃ b o n c e fz,β id=some (b,o,n)∧b < w.heap.size∧w.heap[b]?=some (.cells c e fz)∧(∀ (i:Nat) (v:AV),cs[i]?=some v->∃ x,c[o+i]?=some x∧v.Rel β x) ∧
  ∀ j,o <= j->j < o+cs.length->¬ N b j
theorem zCs {α:Type} {β:Bt} {f:List AV->Option (α × List AV)} {R:α->List Value->Prop} {sz:Nat} (hf:∀ l x r vs,f l=some (x,r)->AV.aN β l vs->∃ c rest,vs=c++rest∧R x c∧AV.aN β r rest∧c.length=sz) :
  ∀ n l xs r vs,Qb f n l=some (xs,r)->AV.aN β l vs->∃ css rest,vs=css.flatten++rest∧aQ R xs css∧AV.aN β r rest∧xs.length=n∧∀ c ∈ css,c.length=sz:=by
 intro n
 induction n with
 | zero =>
  intro l xs r vs h hr
  simp only [Qb,aA,aB] at h
  obtain ⟨rfl,rfl⟩:=h
  exact ⟨[],vs,rfl,trivial,hr,rfl,fun c h=>by cases h⟩
 | succ n ih =>
  intro l xs r vs h hr
  have h:(ob (f l) fun p=>ob (Qb f n p.2) fun q=>some (p.1 :: q.1,q.2))=some (xs,r):=h
  obtain ⟨p,hp,h⟩:=aC h
  obtain ⟨q,hq,h⟩:=aC h
  simp only [aA,aB] at h
  obtain ⟨rfl,rfl⟩:=h
  obtain ⟨c,rest,rfl,h1,h2,h3⟩:=hf l p.1 p.2 vs hp hr
  obtain ⟨css,zKe,rfl,h4,h5,h6,h7⟩:=ih p.2 q.1 q.2 rest hq h2
  refine ⟨c :: css,zKe,by simp,⟨h1,h4⟩,h5,by simp [h6],fun d hd=>?_⟩
  rcases List.mem_cons.1 hd with rfl | hd
  ·exact h3
  ·exact h7 d hd
theorem zCt {α:Type} {l:List α} (h:zCr l=true):l=[]:=by cases l <;> first | rfl | cases h
theorem vH {H:T Blk} {β:Bt} {w:World} {N:Nat->Nat->Prop} (hL:zQp H β w N):∀ (t:Ty) (l:List AV) (x:t.den) (r:List AV) (vs:List Value),nY H t l=some (x,r)->AV.aN β l vs->∃ c rest,vs=c++rest∧t.Rel w N x c∧AV.aN β r rest∧c.length=t.size
 | .unit,l,x,r,vs,h,hr=>by
  simp only [nY,aA,aB] at h
  obtain ⟨_,rfl⟩:=h
  exact ⟨[],vs,rfl,rfl,hr,rfl⟩
 | .bool,l,x,r,vs,h,hr=>by
  simp only [nY] at h
  split at h
  ·simp only [aA,aB] at h
   obtain ⟨rfl,rfl⟩:=h
   obtain ⟨y,ys,rfl,h1,h2⟩:=hr
   simp only [AV.Rel] at h1; subst h1
   exact ⟨[_],ys,rfl,rfl,h2,rfl⟩
  ·cases h
 | .int k,l,x,r,vs,h,hr=>by
  simp only [nY] at h
  split at h
  ·rename_i k' n r'
   unfold cnd at h
   split at h
   ·rename_i hk
    have hk:=of_decide_eq_true hk
    subst hk
    simp only [aA,aB] at h
    obtain ⟨rfl,rfl⟩:=h
    obtain ⟨y,ys,rfl,h1,h2⟩:=hr
    simp only [AV.Rel] at h1; subst h1
    exact ⟨[_],ys,rfl,rfl,h2,rfl⟩
   ·cases h
  ·cases h
 | .str,l,x,r,vs,h,hr=>by
  simp only [nY] at h
  split at h
  ·rename_i s r'
   simp only [aA,aB] at h
   obtain ⟨rfl,rfl⟩:=h
   obtain ⟨y,ys,rfl,h1,h2⟩:=hr
   simp only [AV.Rel] at h1
   obtain ⟨ba,rfl,hba⟩:=h1
   refine ⟨[_],ys,rfl,?_,h2,rfl⟩
   show [Value.string ba]=[Value.string ⟨(s.map UInt8.ofNat).toArray⟩]
   rw [<- hba]
   have:=rt_eq ba.data.toList
   unfold rt at this
   rw [this]
  ·cases h
 | .err,l,x,r,vs,h,hr=>by
  simp only [nY] at h
  split at h
  ·simp only [aA,aB] at h
   obtain ⟨rfl,rfl⟩:=h
   obtain ⟨y,ys,rfl,h1,h2⟩:=hr
   simp only [AV.Rel] at h1; subst h1
   exact ⟨[_],ys,rfl,⟨_,rfl,.inr ⟨rfl,rfl⟩⟩,h2,rfl⟩
  ·simp only [aA,aB] at h
   obtain ⟨rfl,rfl⟩:=h
   obtain ⟨y,ys,rfl,h1,h2⟩:=hr
   obtain ⟨z,rfl,_⟩:=h1
   exact ⟨[_],ys,rfl,⟨_,rfl,.inl ⟨rfl,_,_,rfl⟩⟩,h2,rfl⟩
  ·cases h
 | .clip _,l,x,r,vs,h,hr=>by simp only [nY] at h; cases h
 | .opq,l,x,r,vs,h,hr=>by simp [nY] at h
 | .pair a b,l,x,r,vs,h,hr=>by
  simp only [nY] at h
  obtain ⟨p,hp,h⟩:=aC h
  obtain ⟨q,hq,h⟩:=aC h
  simp only [aA,aB] at h
  obtain ⟨rfl,rfl⟩:=h
  obtain ⟨c,rest,rfl,h1,h2,h3⟩:=vH hL a l p.1 p.2 vs hp hr
  obtain ⟨c2,zKe,rfl,h4,h5,h6⟩:=vH hL b p.2 q.1 q.2 rest hq h2
  exact ⟨c++c2,zKe,by simp,⟨c,c2,rfl,h1,h4⟩,h5,by simp [h3,h6,Ty.size]⟩
 | .arr n a,l,x,r,vs,h,hr=>by
  simp only [nY] at h
  obtain ⟨css,rest,rfl,h1,h2,h3,h4⟩:=zCs (fun l x r vs h hr=>vH hL a l x r vs h hr) n l x r vs h hr
  refine ⟨css.flatten,rest,rfl,⟨h3,css,rfl,h1⟩,h2,?_⟩
  rw [Go.Dec.flatten_length (n:=a.size) css h4,<- h1.length,h3]
  rfl
 | .slice a,l,x,r,vs,h,hr=>by
  simp only [nY] at h
  split at h
  ·simp only [aA,aB] at h
   obtain ⟨rfl,rfl⟩:=h
   obtain ⟨y,ys,rfl,h1,h2⟩:=hr
   simp only [AV.Rel] at h1; subst h1
   exact ⟨[_],ys,rfl,⟨_,rfl,.inl ⟨rfl,rfl⟩⟩,h2,rfl⟩
  ·simp only [aA,aB] at h
   obtain ⟨rfl,rfl⟩:=h
   obtain ⟨y,ys,rfl,h1,h2⟩:=hr
   obtain ⟨p,c,rfl,hc,_⟩:=h1
   exact ⟨[_],ys,rfl,⟨_,rfl,.inr (.inr ⟨p,c,rfl,rfl,hc⟩)⟩,h2,rfl⟩
  ·rename_i id off len cap sz ex r'
   obtain ⟨y,ys,rfl,h1,h2⟩:=hr
   obtain ⟨b,o,n,C,hb,rfl,_,hlen,hmax,_⟩:=h1
   have key:∀ cs,((∃ cls top shr,H.get id=some (.cells cs cls top shr))∨H.get id=some (.ro cs))->(ob (tk (len * a.size) (drp off cs)) fun l=>ob (Qb (nY H a) len l) fun q=>cnd (zCr q.2) (some (q.1,r')) none)=some (x,r) ->
     ∃ c rest,Value.slice (some ⟨b,o+off,none⟩) len C :: ys=c++rest∧(Ty.slice a).Rel w N x c∧AV.aN β r rest∧c.length=(Ty.slice a).size:=by
    intro cs hcs h
    obtain ⟨l1,hl1,h⟩:=aC h
    obtain ⟨q,hq,h⟩:=aC h
    unfold cnd at h
    split at h
    ·rename_i hn
     have hn:=zCt hn
     simp only [aA,aB] at h
     obtain ⟨rfl,rfl⟩:=h
     obtain ⟨b',o',n',c,e,fz,hb',hlt,hheap,hcell,hN⟩:=hL id cs hcs
     rw [hb] at hb'
     simp only [aA,aB] at hb'
     obtain ⟨rfl,rfl,rfl⟩:=hb'
     rw [wT] at hl1
     obtain ⟨rfl,hl⟩:=Dq hl1
     rw [List.length_drop] at hl
     have hvs:AV.aN β ((cs.drop off).take (len * a.size)) ((c.toList.drop (o+off)).take (len * a.size)):=by
      have hin:∀ j,j < len * a.size->∃ u x,((cs.drop off).take (len * a.size))[j]?=some u∧c[o+off+j]?=some x∧u.Rel β x:=fun j hj=>by
       have hj2:off+j < cs.length:=by omega
       obtain ⟨x,hx,hrel⟩:=hcell (off+j) cs[off+j] (by rw [List.getElem?_eq_getElem hj2])
       refine ⟨cs[off+j],x,?_,by rw [<- hx,Nat.add_assoc],hrel⟩
       rw [List.getElem?_take,if_pos hj,List.getElem?_drop,List.getElem?_eq_getElem hj2]
      refine AV.aN.Jq ?_ fun j u hu=>?_
      ·have hsz:len * a.size=0∨o+off+len * a.size <= c.size:=by
        rcases Nat.eq_zero_or_pos (len * a.size) with h0 | h0
        ·exact .inl h0
        ·obtain ⟨u,x,_,hx,_⟩:=hin (len * a.size - 1) (by omega)
         have:=(Array.getElem?_eq_some_iff.1 hx).1
         exact .inr (by omega)
       simp
       omega
      ·have hj:j < len * a.size:=by
        have:=(aS.1 hu).1
        simp at this
        omega
       obtain ⟨u',x,hu',hx,hrel⟩:=hin j hj
       rw [hu] at hu'
       simp only [aA] at hu'
       subst hu'
       exact ⟨x,by rw [List.getElem?_take,if_pos hj,List.getElem?_drop,Array.getElem?_toList]; exact hx,hrel⟩
     obtain ⟨css,rest,e1,h3,h4,h5,h6⟩:=zCs (fun l x r vs h hr=>vH hL a l x r vs h hr) len _ q.1 q.2 _ hq hvs
     rw [hn] at h4
     simp only [AV.aN] at h4
     subst h4
     rw [List.append_nil] at e1
     refine ⟨[_],ys,rfl,⟨_,rfl,.inr (.inl ⟨b,o+off,C,css,by rw [h5],hlt,fun j g1 g2=>?_,by omega,hmax,h3,h6,fun j v hv=>?_⟩)⟩,h2,rfl⟩
     ·rw [h5] at g2
      exact hN j (by omega) (by omega)
     ·rw [<- e1,List.getElem?_take] at hv
      split at hv
      ·rw [List.getElem?_drop,Array.getElem?_toList] at hv
       simp only [World.cell?,hheap]
       exact hv
      ·cases hv
    ·cases h
   split at h
   ·rename_i cs cls top shr hB
    exact key cs (.inl ⟨cls,top,shr,hB⟩) h
   ·rename_i cs hB
    exact key cs (.inr hB) h
   ·cases h
  ·cases h
def fin {α:Type} (p:Option (α × List AV)):Option α:=ob p fun p=>cnd (zCr p.2) (some p.1) none
def zKf (H:T Blk) (t:Ty) (v:AV):Option t.den :=
 match t.isAgg with
 | true=>match v with | .ag l=>fin (nY H t l) | _=>none
 | false=>fin (nY H t [v])
def jO (H:T Blk):(ts:List Ty)->List AV->Option (dD ts)
 | [],[]=>some ()
 | [t],[v]=>zKf H t v
 | t :: s :: r,v :: vs=>ob (zKf H t v) fun x=>ob (jO H (s :: r) vs) fun y=>some (x,y)
 | _,_=>none
section
variable {H:T Blk} {β:Bt} {w:World} {N:Nat->Nat->Prop}
theorem zCu {α:Type} {p:Option (α × List AV)} {x:α} (h:fin p=some x):p=some (x,[]):=by
 unfold fin at h
 replace h:=aC h; obtain ⟨q,rfl,h⟩:=h
 unfold cnd at h
 split at h
 ·rename_i hn
  simp only [aA] at h
  rw [<- h,<- zCt hn]
 ·cases h
theorem zCv (hL:zQp H β w N) {t:Ty} {v:AV} {x:t.den} {u:Value} (h:zKf H t v=some x) (hr:v.Rel β u):t.bK w N x u:=by
 unfold zKf at h
 unfold Ty.bK
 split at h
 ·rename_i ha
  rw [if_pos ha]
  split at h
  ·rename_i l
   have h:=zCu h
   obtain ⟨us,rfl,hr⟩:=hr
   obtain ⟨c,rest,rfl,h1,h2,_⟩:=vH hL t l x [] us h hr
   simp only [AV.aN] at h2
   subst h2
   rw [List.append_nil]
   exact ⟨c,rfl,h1⟩
  ·cases h
 ·rename_i ha
  rw [if_neg (by rw [ha]; simp)]
  have h:=zCu h
  obtain ⟨c,rest,e,h1,h2,_⟩:=vH hL t [v] x [] [u] h ⟨u,[],rfl,hr,rfl⟩
  simp only [AV.aN] at h2
  subst h2
  rw [List.append_nil] at e
  rw [e]
  exact h1
theorem Bc (hL:zQp H β w N):∀ {ts:List Ty} {l:List AV} {y:dD ts} {us:List Value},jO H ts l=some y->AV.aN β l us->DensRel w N ts y us
 | [],[],_,us,_,hr=>hr
 | [t],[v],y,us,h,⟨u,us',e,h1,h2⟩=>by
  simp only [AV.aN] at h2
  subst h2 e
  exact ⟨u,rfl,zCv hL h h1⟩
 | t :: s :: r,v :: vs,y,us,h,⟨u,us',e,h1,h2⟩=>by
  simp only [jO] at h
  obtain ⟨x,hx,h⟩:=aC h
  obtain ⟨z,hz,h⟩:=aC h
  simp only [aA] at h
  subst h e
  exact ⟨u,us',rfl,zCv hL hx h1,Bc hL hz h2⟩
 | [],_ :: _,_,_,h,_=>by simp [jO] at h
 | [_],[],_,_,h,_=>by simp [jO] at h
 | [_],_ :: _ :: _,_,_,h,_=>by simp [jO] at h
 | _ :: _ :: _,[],_,_,h,_=>by simp [jO] at h
end
def Vk {α:Type} (f:α->List Bool->W->Option (List AV × List Bool × W)):List α->List Bool->W->Option (List AV × List Bool × W)
 | [],bs,A=>some ([],bs,A)
 | x :: xs,bs,A=>ob (f x bs A) fun p=>ob (Vk f xs p.2.1 p.2.2) fun q=>some (p.1++q.1,q.2)
def mR:(t:Ty)->t.den->List Bool->W->Option (List AV × List Bool × W)
 | .unit,_,bs,A=>some ([],bs,A)
 | .bool,b,bs,A=>some ([.bo b],bs,A)
 | .int k,n,bs,A=>some ([.it k n],bs,A)
 | .str,s,bs,A=>some ([.st (List.map UInt8.toNat s)],bs,A)
 | .err,b,bs,A=>match (b:Bool) with | false=>some ([.ni],bs,A) | true=>none
 | .opq,_,_,_=>none
 | .clip _,_,_,_=>none
 | .pair a b,x,bs,A=>ob (mR a x.1 bs A) fun p=>ob (mR b x.2 p.2.1 p.2.2) fun q=>some (p.1++q.1,q.2)
 | .arr _ a,xs,bs,A=>Vk (mR a) xs bs A
 | .slice a,xs,bs,A=>match (xs:List a.den) with
  | []=>match bs with
   | b :: bs=>some ([cnd b .ns (.se false)],bs,A)
   | []=>none
  | x :: xs=>ob (Vk (mR a) (x :: xs) bs A) fun p=>ck (Nat.blt p.2.2.nx big && Nat.blt 0 a.size)
   (some ([.sl p.2.2.nx 0 (len (x :: xs)) (len (x :: xs)) a.size false],p.2.1,⟨p.2.2.H.put p.2.2.nx (some (.ro p.1)),p.2.2.nx+1⟩))
def enc1 (t:Ty) (x:t.den) (bs:List Bool) (A:W):Option (List AV × List Bool × W) :=
 match t.isAgg with
 | true=>ob (mR t x bs A) fun p=>some ([.ag p.1],p.2)
 | false=>mR t x bs A
def sN:(ts:List Ty)->dD ts->List Bool->W->Option (List AV × List Bool × W)
 | [],_,bs,A=>some ([],bs,A)
 | [t],x,bs,A=>enc1 t x bs A
 | t :: s :: r,x,bs,A=>ob (enc1 t x.1 bs A) fun p=>ob (sN (s :: r) x.2 p.2.1 p.2.2) fun q=>some (p.1++q.1,q.2)
def Gt:(t:Ty)->t.den->Nat
 | .pair a b,x=>Gt a x.1+Gt b x.2
 | .arr _ a,xs=>(List.map (Gt a) xs).sum
 | .slice a,xs=>match (xs:List a.den) with
  | []=>1
  | x :: xs=>(List.map (Gt a) (x :: xs)).sum
 | _,_=>0
def zKg:(ts:List Ty)->dD ts->Nat
 | [],_=>0
 | [t],x=>Gt t x
 | t :: s :: r,x=>Gt t x.1+zKg (s :: r) x.2
structure Bp (N:Nat->Nat->Prop) (β:Bt) (A:W) (w:World):Prop where
 blk:∀ id B,A.H.get id=some B->∃ cs b o n,B=.ro cs∧β id=some (b,o,n)∧b < w.heap.size∧(Blk.ro cs).Rel β w.heap b o n∧∀ j,o <= j->j < o+cs.length->¬ N b j
 nx:∀ id,A.nx <= id->β id=none
 here:∀ id b o n,β id=some (b,o,n)->b < w.heap.size
theorem Bp.nil (N:Nat->Nat->Prop) (w:World):Bp N noB ⟨.nil,0⟩ w:=⟨fun id B h=>by simp [T.get] at h,fun _ _=>rfl,fun _ _ _ _ h=>by cases h⟩
def Tp (N:Nat->Nat->Prop) (w:World) (β:Bt) (A:W) (cs:List Value) (bs':List Bool) (r:List AV × List Bool × W):Prop :=
 r.2.1=bs'∧∃ β',Bp N β' r.2.2 w∧Le β β'∧A.nx <= r.2.2.nx∧AV.aN β' r.1 cs
theorem Qc {α:Type} {N:Nat->Nat->Prop} {w:World} {f:α->List Bool->W->Option (List AV × List Bool × W)} {R:α->List Value->Prop} {em:α->Nat}
  (hf:∀ x c,R x c->∃ bs:List Bool,bs.length=em x∧∀ β A,Bp N β A w->∀ bs' r,f x (bs++bs') A=some r->Tp N w β A c bs' r) :
  ∀ (xs:List α) (css:List (List Value)),aQ R xs css->∃ bs:List Bool,bs.length=(xs.map em).sum∧∀ β A,Bp N β A w->∀ bs' r,Vk f xs (bs++bs') A=some r->Tp N w β A css.flatten bs' r
 | [],[],_=>⟨[],rfl,fun β A hA bs' r h=>by
   simp only [Vk,aA] at h
   subst h
   exact ⟨rfl,β,hA,.refl β,aI _,rfl⟩⟩
 | x :: xs,c :: css,⟨h1,h2⟩=>by
  obtain ⟨bs1,hl1,hx⟩:=hf x c h1
  obtain ⟨bs2,hl2,hxs⟩:=Qc hf xs css h2
  refine ⟨bs1++bs2,by simp [hl1,hl2],fun β A hA bs' r h=>?_⟩
  rw [List.append_assoc] at h
  simp only [Vk] at h
  obtain ⟨p,hp,h⟩:=aC h
  obtain ⟨q,hq,h⟩:=aC h
  simp only [aA] at h
  subst h
  obtain ⟨e1,β1,hA1,hle1,hnx1,hr1⟩:=hx β A hA _ p hp
  rw [e1] at hq
  obtain ⟨e2,β2,hA2,hle2,hnx2,hr2⟩:=hxs β1 p.2.2 hA1 bs' q hq
  exact ⟨e2,β2,hA2,hle1.trans hle2,Nat.le_trans hnx1 hnx2,(AV.aN.mono hle2 hr1).append hr2⟩
 | [],_ :: _,h=>h.elim
 | _ :: _,[],h=>h.elim
theorem vI {N:Nat->Nat->Prop} {w:World}:∀ (t:Ty) (x:t.den) (cs:List Value),t.Rel w N x cs->∃ bs:List Bool,bs.length=Gt t x∧∀ β A,Bp N β A w->∀ bs' r,mR t x (bs++bs') A=some r->Tp N w β A cs bs' r
 | .unit,x,cs,h=>⟨[],rfl,fun β A hA bs' r hr=>by
   simp only [Ty.Rel] at h
   simp only [mR,List.nil_append,aA] at hr
   subst h hr
   exact ⟨rfl,β,hA,.refl β,aI _,rfl⟩⟩
 | .bool,x,cs,h=>⟨[],rfl,fun β A hA bs' r hr=>by
   simp only [Ty.Rel] at h
   simp only [mR,List.nil_append,aA] at hr
   subst h hr
   exact ⟨rfl,β,hA,.refl β,aI _,_,_,rfl,rfl,rfl⟩⟩
 | .int k,x,cs,h=>⟨[],rfl,fun β A hA bs' r hr=>by
   simp only [Ty.Rel] at h
   simp only [mR,List.nil_append,aA] at hr
   subst h hr
   exact ⟨rfl,β,hA,.refl β,aI _,_,_,rfl,rfl,rfl⟩⟩
 | .str,x,cs,h=>⟨[],rfl,fun β A hA bs' r hr=>by
   simp only [Ty.Rel] at h
   simp only [mR,List.nil_append,aA] at hr
   subst h hr
   exact ⟨rfl,β,hA,.refl β,aI _,_,_,rfl,⟨_,rfl,rfl⟩,rfl⟩⟩
 | .err,x,cs,h=>⟨[],rfl,fun β A hA bs' r hr=>by
   obtain ⟨v,rfl,h⟩:=h
   simp only [mR,List.nil_append] at hr
   split at hr
   ·simp only [aA] at hr
    subst hr
    rcases h with ⟨h,_⟩ | ⟨_,rfl⟩
    ·cases h
    ·exact ⟨rfl,β,hA,.refl β,aI _,_,_,rfl,rfl,rfl⟩
   ·cases hr⟩
 | .opq,x,cs,h=>⟨[],rfl,fun β A hA bs' r hr=>by simp [mR] at hr⟩
 | .clip _,x,cs,h=>⟨[],rfl,fun β A hA bs' r hr=>by simp [mR] at hr⟩
 | .pair a b,x,cs,h=>by
  obtain ⟨c1,c2,rfl,h1,h2⟩:=h
  obtain ⟨bs1,hl1,hx⟩:=vI a x.1 c1 h1
  obtain ⟨bs2,hl2,hy⟩:=vI b x.2 c2 h2
  refine ⟨bs1++bs2,by simp [hl1,hl2,Gt],fun β A hA bs' r h=>?_⟩
  rw [List.append_assoc] at h
  simp only [mR] at h
  obtain ⟨p,hp,h⟩:=aC h
  obtain ⟨q,hq,h⟩:=aC h
  simp only [aA] at h
  subst h
  obtain ⟨e1,β1,hA1,hle1,hnx1,hr1⟩:=hx β A hA _ p hp
  rw [e1] at hq
  obtain ⟨e2,β2,hA2,hle2,hnx2,hr2⟩:=hy β1 p.2.2 hA1 bs' q hq
  exact ⟨e2,β2,hA2,hle1.trans hle2,Nat.le_trans hnx1 hnx2,(AV.aN.mono hle2 hr1).append hr2⟩
 | .arr n a,xs,cs,h=>by
  obtain ⟨_,css,rfl,h⟩:=h
  obtain ⟨bs,hl,hx⟩:=Qc (fun x c hc=>vI a x c hc) xs css h
  exact ⟨bs,hl,fun β A hA bs' r h=>hx β A hA bs' r (by simpa only [mR] using h)⟩
 | .slice a,xs,cs,h=>by
  obtain ⟨v,rfl,h⟩:=h
  cases xs with
  | nil =>
   have hv:v=.slice none 0 0∨∃ p c,v=.slice (some p) 0 c∧c <= Go.maxLen:=by
    rcases h with ⟨rfl,_⟩ | ⟨b,off,cap,css,rfl,_,_,_,hm,_⟩ | ⟨p,c,rfl,_,hc⟩
    ·exact .inl rfl
    ·exact .inr ⟨_,_,rfl,hm⟩
    ·exact .inr ⟨_,_,rfl,hc⟩
   rcases hv with rfl | ⟨p,c,rfl,hc⟩
   ·refine ⟨[true],rfl,fun β A hA bs' r hr=>?_⟩
    simp only [mR,List.cons_append,List.nil_append,cnd,aA] at hr
    subst hr
    exact ⟨rfl,β,hA,.refl β,aI _,_,_,rfl,rfl,rfl⟩
   ·refine ⟨[false],rfl,fun β A hA bs' r hr=>?_⟩
    simp only [mR,List.cons_append,List.nil_append,cnd,aA] at hr
    subst hr
    exact ⟨rfl,β,hA,.refl β,aI _,_,_,rfl,⟨p,c,rfl,hc,fun h=>by cases h⟩,rfl⟩
  | cons x xs =>
   rcases h with ⟨_,h⟩ | ⟨b,off,cap,css,rfl,hb,hN,hlc,hm,hall,hsz,hcells⟩ | ⟨p,c,_,h,_⟩
   ·cases h
   ·obtain ⟨bs,hl,hx⟩:=Qc (fun x c hc=>vI a x c hc) (x :: xs) css hall
    refine ⟨bs,hl,fun β A hA bs' r hr=>?_⟩
    simp only [mR] at hr
    obtain ⟨p,hp,hr⟩:=aC hr
    replace hr:=aM hr; obtain ⟨hck,hr⟩:=hr
    rw [aF,Nat.blt_eq,Nat.blt_eq] at hck
    obtain ⟨hbig,hpos⟩:=hck
    simp only [aA] at hr
    subst hr
    obtain ⟨e1,β1,hA1,hle1,hnx1,hr1⟩:=hx β A hA bs' p hp
    have hfl:css.flatten.length=(x :: xs).length * a.size:=by rw [Go.Dec.flatten_length (n:=a.size) css hsz,<- hall.length]
    have hlen:p.1.length=(x :: xs).length * a.size:=by rw [hr1.length,hfl]
    have zXc:0 < (x :: xs).length * a.size:=Nat.mul_pos (by simp) hpos
    have hblk:∃ c e fz,w.heap[b]?=some (.cells c e fz):=by
     obtain ⟨v0,hv0⟩:∃ v0,css.flatten[0]?=some v0:=⟨css.flatten[0]'(by omega),List.getElem?_eq_getElem (by omega)⟩
     have:=hcells 0 v0 hv0
     unfold World.cell? at this
     split at this
     ·rename_i c e fz heq
      exact ⟨c,e,fz,heq⟩
     ·cases this
    obtain ⟨c0,e0,fz0,hheap⟩:=hblk
    let n0:=off+(x :: xs).length * a.size+cap * a.size
    let β2:Bt:=fun id=>if id=p.2.2.nx then some (b,off,n0) else β1 id
    have hle2:Le β1 β2:=fun id q hq=>by
     have:id ≠ p.2.2.nx:=fun e=>by rw [e,hA1.nx _ (aI _)] at hq; cases hq
     show (if id=p.2.2.nx then _ else β1 id)=_
     rw [if_neg this]; exact hq
    have hself:β2 p.2.2.nx=some (b,off,n0):=if_pos rfl
    refine ⟨e1,β2,⟨?_,?_,?_⟩,hle1.trans hle2,by show A.nx <= p.2.2.nx+1; omega,?_⟩
    ·intro id B hB
     have hB:(p.2.2.H.put p.2.2.nx (some (.ro p.1))).get id=some B:=hB
     by_cases hid:id=p.2.2.nx
     ·subst hid
      rw [T.dJ _ hbig] at hB
      simp only [aA] at hB
      subst hB
      refine ⟨p.1,b,off,n0,rfl,hself,hb,⟨by show off+p.1.length <= n0; rw [hlen]; exact Nat.le_add_right _ _,c0,e0,fz0,hheap,fun i u hu=>?_⟩,fun j g1 g2=>hN j g1 (by rw [hlen] at g2; exact g2)⟩
      obtain ⟨y,hy,hrel⟩:=hr1.get hu
      have:=hcells i y hy
      unfold World.cell? at this
      rw [hheap] at this
      exact ⟨y,this,hrel.mono hle2⟩
     ·rw [T.aT _ hid] at hB
      obtain ⟨cs,b',o,n,e2,h1,h2,h3,h4⟩:=hA1.blk id B hB
      exact ⟨cs,b',o,n,e2,hle2 _ _ h1,h2,h3.mono hle2 rfl,h4⟩
    ·intro id hid
     have hid:p.2.2.nx+1 <= id:=hid
     show (if id=p.2.2.nx then _ else β1 id)=none
     rw [if_neg (by omega)]
     exact hA1.nx id (by omega)
    ·intro id b' o n hid
     have hid:(if id=p.2.2.nx then some (b,off,n0) else β1 id)=some (b',o,n):=hid
     split at hid
     ·simp only [aA,aB] at hid
      rw [<- hid.1]; exact hb
     ·exact hA1.here id b' o n hid
    ·refine ⟨_,_,rfl,⟨b,off,n0,cap,hself,?_,?_,?_,hm,?_⟩,rfl⟩
     ·rw [len_eq]; simp
     ·show len (x :: xs) <= cap
      rw [len_eq]; exact hlc
     ·rw [len_eq]; exact hlc
     ·show off+0+cap * a.size <= n0
      have:n0=off+(x :: xs).length * a.size+cap * a.size:=rfl
      omega
   ·cases h
theorem zCw {N:Nat->Nat->Prop} {w:World} (t:Ty) (x:t.den) (u:Value) (h:t.bK w N x u):∃ bs:List Bool,bs.length=Gt t x∧∀ β A,Bp N β A w->∀ bs' r,enc1 t x (bs++bs') A=some r->Tp N w β A [u] bs' r:=by
 unfold Ty.bK at h
 unfold enc1
 split at h
 ·rename_i ha
  obtain ⟨cs,rfl,h⟩:=h
  obtain ⟨bs,hl,hx⟩:=vI t x cs h
  refine ⟨bs,hl,fun β A hA bs' r hr=>?_⟩
  rw [ha] at hr
  replace hr:=aC hr; obtain ⟨p,hp,hr⟩:=hr
  simp only [aA] at hr
  subst hr
  obtain ⟨e1,β1,hA1,hle1,hnx1,hr1⟩:=hx β A hA bs' p hp
  exact ⟨e1,β1,hA1,hle1,hnx1,_,_,rfl,⟨cs,rfl,hr1⟩,rfl⟩
 ·rename_i ha
  obtain ⟨bs,hl,hx⟩:=vI t x [u] h
  refine ⟨bs,hl,fun β A hA bs' r hr=>?_⟩
  have ha:t.isAgg=false:=by cases h:t.isAgg <;> simp_all
  rw [ha] at hr
  exact hx β A hA bs' r hr
theorem Ba {N:Nat->Nat->Prop} {w:World}:∀ (ts:List Ty) (x:dD ts) (us:List Value),DensRel w N ts x us->∃ bs:List Bool,bs.length=zKg ts x∧∀ β A,Bp N β A w->∀ bs' r,sN ts x (bs++bs') A=some r->Tp N w β A us bs' r
 | [],x,us,h=>⟨[],rfl,fun β A hA bs' r hr=>by
   simp only [DensRel] at h
   simp only [sN,List.nil_append,aA] at hr
   subst h hr
   exact ⟨rfl,β,hA,.refl β,aI _,rfl⟩⟩
 | [t],x,us,⟨u,e,h⟩=>by
  subst e
  exact zCw t x u h
 | t :: s :: r,x,us,⟨u,us',e,h1,h2⟩=>by
  subst e
  obtain ⟨bs1,hl1,hx⟩:=zCw t x.1 u h1
  obtain ⟨bs2,hl2,hy⟩:=Ba (s :: r) x.2 us' h2
  refine ⟨bs1++bs2,by simp [hl1,hl2,zKg],fun β A hA bs' r h=>?_⟩
  rw [List.append_assoc] at h
  simp only [sN] at h
  replace h:=aC h; obtain ⟨p,hp,h⟩:=h
  replace h:=aC h; obtain ⟨q,hq,h⟩:=h
  simp only [aA] at h
  subst h
  obtain ⟨e1,β1,hA1,hle1,hnx1,hr1⟩:=hx β A hA _ p hp
  rw [e1] at hq
  obtain ⟨e2,β2,hA2,hle2,hnx2,hr2⟩:=hy β1 p.2.2 hA1 bs' q hq
  exact ⟨e2,β2,hA2,hle1.trans hle2,Nat.le_trans hnx1 hnx2,(AV.aN.mono hle2 hr1).append hr2⟩
end Go.Ce
namespace Go.Dec
def zXu (p:Int × Nat) (x:Int):Option Value:=if x=p.1 then some (.func (.func p.2) #[] #[]) else none
structure Hands (P:Program) (f:FuncId) (tab:List (Int × Nat)):Prop where
 body:fK P f=true
 ok:∀ p ∈ tab,Pure P f [.int .u8] [.opq] (zXu p)
end Go.Dec
