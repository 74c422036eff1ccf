/- Part of a proof over this seat: a library of my own, and what it says of this seat. No statement is proved here. -/
import Derived.Test.YtmpoakdpdflfgaaGreatDoorSwBH
import Derived.Test.YtmpoakdpdflfgaaGreatDoorSwBJ
import Derived.Test.YtmpoakdpdflfgaaGreatDoorSwAJ
import Derived.Test.YtmpoakdpdflfgaaGreatDoorSwBN
namespace Go.Dec
open Go.Proofs Go.RowKit
abbrev TLine:Ty:=.pair .str (.pair .bool .unit)
theorem all2_rows (w:World) (N:Nat->Nat->Prop) (l:List Line):All2 (fun (x:Line) (c:List Value)=>TLine.Rel w N x c) l (l.map fun x=>[.string ⟨x.1.toArray⟩,.bool x.2.1]):=by
 induction l with
 | nil=>trivial
 | cons x l ih=>exact ⟨⟨[.string ⟨x.1.toArray⟩],[.bool x.2.1],rfl,rfl,[.bool x.2.1],[],rfl,rfl,rfl⟩,ih⟩
end Go.Dec
namespace Go.Dec
open Go.Proofs Go.RowKit
abbrev table_SplitOI:Sh:=⟨1,[⟨0,false,[.v .str]⟩],[]⟩
abbrev table_SplitOO:Sh:=⟨1,[⟨0,false,[.own 0]⟩],[.row 83 TLine]⟩
theorem table_SplitO_meets (n:Nat):Meets Tryz.prog 12 table_SplitOI table_SplitOO (table_SplitO n):=by
 refine ⟨by kernel_rfl,fun x y hF C β w xs hP hkf hs=>?_⟩
 obtain ⟨hc,hy⟩:=chk_some hF
 have hc:=of_decide_eq_true hc
 obtain rfl:=Option.some.inj hy
 obtain ⟨s,x0⟩:=x
 have hE:table_SplitOI.enc (s,x0)=⟨[.one (.val .str s)],[]⟩:=rfl
 have hE2:table_SplitOO.enc (splitL s,())=⟨[.one (.own 0 0)],[.arr 83 TLine 0 (splitL s) true]⟩:=rfl
 rw [hE] at hs
 rw [hE2]
 have hrg:=hs.reg 0 _ rfl
 have hsize:=hs.size
 obtain ⟨u,rfl⟩:∃ u,xs=[u]:=List.length_eq_one_iff.1 (by simpa using hsize.symm)
 have hu:([u]:List Value)=[.string ⟨s.toArray⟩]:=hrg
 simp only [List.cons.injEq,and_true] at hu
 subst hu
 have one:∀ {β':Nat->Pl} {W:World} {v:Value} {rows:List Line} {k:Nat},HSim C β' [.arr 83 TLine k rows true] W->(L.own 0 k).Rel β' W (C.N β' [.arr 83 TLine k rows true]) [v]->Sim C β' ⟨[.one (.own 0 k)],[.arr 83 TLine k rows true]⟩ { tmps:=#[v],defers:=[] } W:=fun h1 h2=>⟨h1,rfl,rfl,fun i q hq=>by
  match i,hq with
  | 0,hq=>obtain rfl:=Option.some.inj hq; exact h2
  | i+1,hq=>simp at hq⟩
 refine (callsIn_wide.1 (split_in s w hc)).mono ?_
 rintro e w' ⟨v,rfl,k1,k2,k3,k4,k5,_⟩
 have hkeep:Keep (fun _ _=>False) w w':=Keep.ofBlock (M:=fun _=>False) k5.size (fun b hb _=>k5.block b hb) (fun _ _ h=>h)
 have hsame:Same w w':=⟨k1,k2,k3⟩
 rcases k4.2 with ⟨rfl,h0⟩ | ⟨g,cap,cur,rfl,hg,hcur,h2,h3,h4,h5⟩
 ·have hnil:splitL s=[]:=List.eq_nil_of_length_eq_zero h0
  rw [hnil]
  let p:Pl:=⟨true,false,0,none,2,0,0,[]⟩
  have hh:=hs.heap.pushG (o:=.arr 83 TLine 0 [] true) (p:=p) (w':=w') (fun b hb=>by
    have hb:p.blk=some b:=Ob.blks_plain rfl hb
    cases hb) hkeep hsame (by
   simp only [Ob.Rel]
   exact ⟨rfl,rfl,rfl,rfl,by decide,rfl,.inl ⟨rfl,trivial,rfl⟩⟩)
  refine ⟨[_],upd β 0 p,rfl,one hh ?_⟩
  simp only [L.Rel,upd_same]
  refine ⟨rfl,rfl,Nat.le_refl _,_,rfl,rfl,fun _=>?_⟩
  unfold SlOwn
  exact ⟨rfl,rfl,rfl⟩
 ·let p:Pl:=⟨true,false,0,some g,2,cap,(splitL s).length,[]⟩
  have hlt:g < w'.heap.size:=(Array.getElem?_eq_some_iff.1 hcur).1
  have hh:=hs.heap.pushG (o:=.arr 83 TLine 0 (splitL s) true) (p:=p) (w':=w') (fun b hb=>by
    have hb:p.blk=some b:=Ob.blks_plain rfl hb
    simp only [p,Option.some.injEq] at hb
    omega) hkeep hsame (by
   simp only [Ob.Rel]
   refine ⟨rfl,rfl,rfl,rfl,by decide,rfl,.inr ⟨g,cur,_,rfl,hcur,all2_rows w' _ _,?_,h4,h2,h3⟩⟩
   have e1:(List.map (fun x:Line=>[Value.string ⟨x.1.toArray⟩,.bool x.2.1]) (splitL s)).flatten=rowCells (splitL s):=by simp [rowCells,List.flatMap]
   rw [e1,<- h5]
   rfl)
  refine ⟨[_],upd β 0 p,rfl,one hh ?_⟩
  simp only [L.Rel,upd_same]
  refine ⟨rfl,rfl,Nat.le_refl _,_,rfl,rfl,fun _=>?_⟩
  unfold SlOwn
  simp only [p]
  exact ⟨by omega,0,rfl,.inl (by simp)⟩
end Go.Dec
