/- Part of a proof over this seat: a library of my own, and what it says of this seat. No statement is proved here. -/
import Derived.Test.YtdgneppobefaoaaGreatDoorPartBH
import Derived.Test.YtdgneppobefaoaaGreatDoorPartBJ
import Derived.Test.YtdgneppobefaoaaGreatDoorPartAJ
namespace Go.Dec
open Go.Proofs Go.RowKit
abbrev yIe:Ty:=.pair .str (.pair .bool .unit)
abbrev xS:List Ty:=[.str]
abbrev xU:List Ty:=[.slice yIe]
theorem yCg (w:World) (N:Nat->Nat->Prop) (l:List Line):aW (fun (x:Line) (c:List Value)=>yIe.Rel w N x c) l (l.map fun x=>[.string ⟨x.1.toArray⟩,.bool x.2.1]):=by
 induction l with
 | nil=>trivial
 | cons x l ih=>exact ⟨⟨[.string ⟨x.1.toArray⟩],[.bool x.2.1],rfl,rfl,[.bool x.2.1],[],rfl,rfl,rfl⟩,ih⟩
theorem wF (n:Nat):Pure Tryz.prog 9 xS xU (gJ n):=by
 refine ⟨by kernel_rfl,fun x y hF w N xs hG hN hx=>?_⟩
 obtain ⟨hc,hy⟩:=fD hF
 have hc:=of_decide_eq_true hc
 obtain rfl:=Option.some.inj hy
 obtain ⟨u,rfl,h1⟩:=hx
 simp only [Ty.gG,Ty.isAgg,Bool.false_eq_true,if_false,Ty.Rel,aL,and_true] at h1
 subst h1
 refine (callsIn_wide.1 (split_in x w hc)).mono ?_
 rintro e w' ⟨v,rfl,k1,k2,k3,k4,k5,_⟩
 refine ⟨[v],rfl,k1,k2,k3,Keep.mV (M:=fun _=>False) k5.size (fun b hb _=>k5.block b hb) (fun _ _ h=>h),v,rfl,v,rfl,?_⟩
 rcases k4.2 with ⟨rfl,h0⟩ | ⟨g,cap,cur,rfl,hg,hcur,h2,h3,h4,h5⟩
 ·exact .inl ⟨rfl,List.eq_nil_of_length_eq_zero h0⟩
 ·refine .inr (.inl ⟨g,0,cap,_,rfl,(Array.getElem?_eq_some_iff.1 hcur).1,fun j _ _ hn=>absurd (hN g j hn) (by omega),h2,h3,yCg w' N _,?_,?_⟩)
  ·intro c hc
   obtain ⟨x,_,rfl⟩:=List.mem_map.1 hc
   rfl
  ·intro j c hj
   have e1:(List.map (fun x:Line=>[Value.string ⟨x.1.toArray⟩,.bool x.2.1]) (bU x)).flatten=rowCells (bU x):=by simp [rowCells,List.flatMap]
   rw [e1,<- h5] at hj
   rw [List.getElem?_take] at hj
   split at hj
   ·have e2:w'.cell? ⟨g,0+j,none⟩=cur[0+j]?:=by unfold World.cell?; rw [hcur]; rfl
    rw [e2]
    simpa using hj
   ·cases hj
end Go.Dec
