/- Part of a proof over this seat: a library of my own, and what it says of this seat. No statement is proved here. -/
import Derived.Test.YtmpoakdpdflfgaaGreatDoorPartBH
import Derived.Test.YtmpoakdpdflfgaaGreatDoorPartBJ
import Derived.Test.YtmpoakdpdflfgaaGreatDoorPartAJ
import Derived.Test.YtmpoakdpdflfgaaGreatDoorPartBN
namespace Go.Dec
open Go.Proofs Go.RowKit
abbrev zC:Ty:=.pair .str (.pair .bool .unit)
theorem zMz (w:World) (N:Nat -> Nat -> Prop) (l:List Line):aI (fun (x:Line) (c:List Value)=>zC.Rel w N x c) l (l.map fun x=>[.string ⟨x.1.toArray⟩,.bool x.2.1]):=by
 induction l with
 | nil=>trivial
 | cons x l ih=>exact ⟨⟨[.string ⟨x.1.toArray⟩],[.bool x.2.1],rfl,rfl,[.bool x.2.1],[],rfl,rfl,rfl⟩,ih⟩
end Go.Dec
namespace Go.Dec
open Go.Proofs Go.RowKit
abbrev vD:Sh:=⟨1,[⟨0,false,[.v .str]⟩],[]⟩
abbrev vE:Sh:=⟨1,[⟨0,false,[.own 0]⟩],[.row 83 zC]⟩
theorem Iu (n:Nat):kL Tryz.prog 12 vD vE (fQ n):=by
 refine ⟨by kernel_rfl,fun x y hF C β w xs hP hkf hs=>?_⟩
 obtain ⟨hc,hy⟩:=kG hF
 have hc:=of_decide_eq_true hc
 obtain rfl:=Option.some.inj hy
 obtain ⟨s,x0⟩:=x
 have hE:vD.enc (s,x0) = ⟨[.one (.val .str s)],[]⟩:=rfl
 have hE2:vE.enc (aH s,()) = ⟨[.one (.own 0 0)],[.arr 83 zC 0 (aH s) true]⟩:=rfl
 rw [hE] at hs
 rw [hE2]
 have hrg:=hs.reg 0 _ rfl
 have hsize:=hs.size
 obtain ⟨u,rfl⟩:∃ u,xs = [u]:=List.length_eq_one_iff.1 (by simpa using hsize.symm)
 have hu:([u]:List Value) = [.string ⟨s.toArray⟩]:=hrg
 simp only [List.cons.injEq,and_true] at hu
 subst hu
 have one:∀ {β':Nat -> Pl} {W:World} {v:Value} {rows:List Line} {k:Nat},bH C β' [.arr 83 zC k rows true] W -> (L.own 0 k).Rel β' W (C.N β' [.arr 83 zC k rows true]) [v] -> Sim C β' ⟨[.one (.own 0 k)],[.arr 83 zC k rows true]⟩ { tmps:=#[v],defers:=[] } W:=fun h1 h2=>⟨h1,rfl,rfl,fun i q hq=>by
  match i,hq with
  | 0,hq=>obtain rfl:=Option.some.inj hq; exact h2
  | i + 1,hq=>simp at hq⟩
 refine (callsIn_wide.1 (split_in s w hc)).mono ?_
 rintro e w' ⟨v,rfl,k1,k2,k3,k4,k5,_⟩
 have hkeep:Keep (fun _ _=>False) w w':=Keep.nH (M:=fun _=>False) k5.size (fun b hb _=>k5.block b hb) (fun _ _ h=>h)
 have hsame:Same w w':=⟨k1,k2,k3⟩
 rcases k4.2 with ⟨rfl,h0⟩ | ⟨g,cap,cur,rfl,hg,hcur,h2,h3,h4,h5⟩
 ·have hnil:aH s = []:=List.eq_nil_of_length_eq_zero h0
  rw [hnil]
  let p:Pl:=⟨true,false,0,none,2,0,0,[]⟩
  have hh:=hs.heap.Pv (o:=.arr 83 zC 0 [] true) (p:=p) (w':=w') (fun b hb=>by
    have hb:p.blk = some b:=Ob.jS rfl hb
    cases hb) hkeep hsame (by
   simp only [Ob.Rel]
   exact ⟨rfl,rfl,rfl,rfl,by decide,rfl,.inl ⟨rfl,trivial,rfl⟩⟩)
  refine ⟨[_],upd β 0 p,rfl,one hh ?_⟩
  simp only [L.Rel,upd_same]
  refine ⟨rfl,rfl,Nat.le_refl _,_,rfl,rfl,fun _=>?_⟩
  unfold bU
  exact ⟨rfl,rfl,rfl⟩
 ·let p:Pl:=⟨true,false,0,some g,2,cap,(aH s).length,[]⟩
  have hlt:g < w'.heap.size:=(Array.getElem?_eq_some_iff.1 hcur).1
  have hh:=hs.heap.Pv (o:=.arr 83 zC 0 (aH s) true) (p:=p) (w':=w') (fun b hb=>by
    have hb:p.blk = some b:=Ob.jS rfl hb
    simp only [p,Option.some.injEq] at hb
    omega) hkeep hsame (by
   simp only [Ob.Rel]
   refine ⟨rfl,rfl,rfl,rfl,by decide,rfl,.inr ⟨g,cur,_,rfl,hcur,zMz w' _ _,?_,h4,h2,h3⟩⟩
   have e1:(List.map (fun x:Line=>[Value.string ⟨x.1.toArray⟩,.bool x.2.1]) (aH s)).flatten = rowCells (aH s):=by simp [rowCells,List.flatMap]
   rw [e1,<- h5]
   rfl)
  refine ⟨[_],upd β 0 p,rfl,one hh ?_⟩
  simp only [L.Rel,upd_same]
  refine ⟨rfl,rfl,Nat.le_refl _,_,rfl,rfl,fun _=>?_⟩
  unfold bU
  simp only [p]
  exact ⟨by omega,0,rfl,.inl (by simp)⟩
end Go.Dec
