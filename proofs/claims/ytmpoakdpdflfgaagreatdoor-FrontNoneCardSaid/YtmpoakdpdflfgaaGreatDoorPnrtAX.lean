/- Part of a proof over this seat: a library of my own, and what it says of this seat. No statement is proved here. -/
import Derived.Test.YtmpoakdpdflfgaaGreatDoorPnrtAW
import Derived.Test.YtmpoakdpdflfgaaGreatDoorPnrtAI
namespace Go.Ce
def lkG (f:Nat):List (Nat × Gv)->Option Gv
 | []=>none
 | p :: r=>cnd (Nat.beq f p.1) (some p.2) (lkG f r)
theorem zHg {f:Nat} {g:Gv}:∀ {l:List (Nat × Gv)},lkG f l=some g->(f,g) ∈ l
 | p :: r,h=>by
  unfold lkG cnd at h
  split at h
  ·rename_i hc
   simp only [Option.some.injEq] at h
   have:=Nat.eq_of_beq_eq_true hc
   subst this h
   exact .head _
  ·exact .tail _ (zHg h)
def lkT (f:Nat):List (Nat × TypeId × AV)->Option (TypeId × AV)
 | []=>none
 | p :: r=>cnd (Nat.beq f p.1) (some p.2) (lkT f r)
theorem zHh {f:Nat} {g:TypeId × AV}:∀ {l:List (Nat × TypeId × AV)},lkT f l=some g->(f,g) ∈ l
 | p :: r,h=>by
  unfold lkT cnd at h
  split at h
  ·rename_i hc
   simp only [Option.some.injEq] at h
   have:=Nat.eq_of_beq_eq_true hc
   subst this h
   exact .head _
  ·exact .tail _ (zHh h)
def zLh (ds:List (Nat × AV)) (all:List Nat):Gv:=fun _ A xs=>match xs with
 | []=>ck (Nat.blt A.nx big) (fN (A.nx+1) fun n=>some (.mp A.nx,⟨A.H.put A.nx (some (.dict .u8 ds all)),n⟩))
 | _=>none
theorem zRf {P:Program} {f:FuncId} {ds:List (Nat × AV)} {all:List Nat} (hk:∀ lo A,A.nx < big->bS P lo f [] A (.ret (.mp A.nx)) ⟨A.H.put A.nx (some (.dict .u8 ds all)),A.nx+1⟩)
  (lo:Nat) (A:W) (args:List AV) (v:AV) (A':W) (h:zLh ds all lo A args=some (v,A')):bS P lo f args A (.ret v) A':=by
 unfold zLh at h
 split at h
 ·replace h:=aD h; obtain ⟨hc,h⟩:=h
  rw [dO] at h
  simp only [Option.some.injEq,Prod.mk.injEq] at h
  obtain ⟨rfl,rfl⟩:=h
  rw [Nat.blt_eq] at hc
  exact hk lo A hc
 ·cases h
def zLi (x:Option (Out × W)):Option Bool:=match x with | some (.ret (.bo b),_)=>some b | _=>none
theorem zNw {x:Option (Out × W)} {b:Bool} (h:zLi x=some b):∃ A,x=some (.ret (.bo b),A):=by
 unfold zLi at h
 split at h
 ·simp only [Option.some.injEq] at h; subst h; exact ⟨_,rfl⟩
 ·cases h
open Go.Dec (Pure Keep gQ) in
theorem zFy {E:Env} (hE:dW E) {k:Nat} {f:FuncId} {b:Bool} (hb:gQ E.P f=true) (h:zLi (wZ E (run E k) 0 f [] ⟨.nil,0⟩)=some b):Pure E.P f [] [.bool] (fun _=>some b):=by
 obtain ⟨A',h⟩:=zNw h
 refine ⟨hb,fun x y hxy w N xs _ _ hx=>?_⟩
 simp only [Option.some.injEq] at hxy
 subst hxy
 simp only [Go.Dec.DensRel] at hx
 subst hx
 obtain ⟨_,hc⟩:=Ez hE (rC hE k) h noB w [] (Pm w) rfl
 refine hc.mono fun e w' ⟨β',hg,ho⟩=>?_
 obtain ⟨y,rfl,hy⟩:=ho
 simp only [AV.Rel] at hy
 subst hy
 have hk:∀ j,j < w.heap.size->w'.heap[j]?=w.heap[j]?:=hg.none_old
 refine ⟨[.bool b],rfl,hg.os,hg.tape,hg.output,Keep.nQ (M:=fun _=>False) hg.size (fun j hj _=>hk j hj) (fun _ _ h=>h),?_⟩
 exact ⟨_,rfl,rfl⟩
end Go.Ce
namespace Go.Ce
mutual
def AV.ren (m:Nat->Option Nat):AV->Option AV
 | .pt i o=>ob (m i) fun j=>some (.pt j o)
 | .sl i o l c s e=>ob (m i) fun j=>some (.sl j o l c s e)
 | .mp _=>none
 | .fn f fs cs=>ob (AV.qQ m fs) fun fs=>ob (AV.qQ m cs) fun cs=>some (.fn f fs cs)
 | .ic t v=>ob (AV.ren m v) fun v=>some (.ic t v)
 | .ag l=>ob (AV.qQ m l) fun l=>some (.ag l)
 | .tu l=>ob (AV.qQ m l) fun l=>some (.tu l)
 | v=>some v
def AV.qQ (m:Nat->Option Nat):List AV->Option (List AV)
 | []=>some []
 | a :: r=>ob (AV.ren m a) fun a=>ob (AV.qQ m r) fun r=>some (a :: r)
end
mutual
def AV.ids:AV->List Nat
 | .pt i _=>[i]
 | .sl i _ _ _ _ _=>[i]
 | .mp i=>[i]
 | .fn _ fs cs=>AV.xK fs++AV.xK cs
 | .ic _ v=>AV.ids v
 | .ag l=>AV.xK l
 | .tu l=>AV.xK l
 | _=>[]
def AV.xK:List AV->List Nat
 | []=>[]
 | a :: r=>AV.ids a++AV.xK r
end
def reach (H:T Blk) (k:Nat):List Nat->List Nat->List Nat :=
 @Nat.rec (fun _=>List Nat->List Nat->List Nat) (fun _ seen=>seen) (fun _ ih todo seen=>match todo with
  | []=>seen
  | i :: r=>cnd (pU i seen) (ih r seen) (match H.get i with
   | some (.cells cs _ _ _)=>ih (AV.xK cs++r) (seen++[i])
   | _=>ih r seen)) k
def Env.more (E:Env) (f:FuncId) (g:Gv):Env:={ E with giv:=fun k=>cnd (Nat.beq k f) (some g) (E.giv k) }
theorem dW.more {E:Env} (hE:dW E) {f:FuncId} {g:Gv} (h:∀ lo A args v A',g lo A args=some (v,A')->bS E.P lo f args A (.ret v) A'):dW (E.more f g) where
 I:=hE.I
 F:=hE.F
 giv:=fun k g' hk=>by
  simp only [Env.more,cnd] at hk
  split at hk
  ·rename_i hc
   simp only [Option.some.injEq] at hk
   have:=Nat.eq_of_beq_eq_true hc
   subst this hk
   exact h
  ·exact hE.giv k g' hk
 tri:=hE.tri
 mixed:=hE.mixed
end Go.Ce
