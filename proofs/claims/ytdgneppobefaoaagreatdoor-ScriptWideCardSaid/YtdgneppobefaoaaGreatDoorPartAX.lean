/- Part of a proof over this seat: a library of my own, and what it says of this seat. No statement is proved here. -/
import Derived.Test.YtdgneppobefaoaaGreatDoorPartAW
import Derived.Shelf.SlIter.Nil
import Derived.Shelf.SortM.Plain
import Derived.Shelf.SortM.SortNone
namespace Go.Ce
open Go.RowKit Go.Maps Go.Sort Go.Shelf Go.Proofs
open Go.WideElems (Fit rd rg)
def Zo (g:FuncId) (e:TypeId):Gv:=fun _ A xs=>match xs with
 | [.fn (.func h) [] [.pt bx 0]]=>ck (Nat.beq h g) (match A.H.get bx with
  | some (.typed _ [.mp id])=>match A.H.get id with
   | some (.map [] _)=>some (.ns,A)
   | some (.map [en] clk)=>ck (Nat.blt en.2.2 clk) (match en.1 with
    | .st k=>ck (Nat.ble (len k) 1000000) (ob (yN A e [.st k]) fun A'=>some (.sl A.nx 0 1 0 1 false,A'))
    | _=>none)
   | _=>none
  | _=>none)
 | _=>none
theorem Go.below {lo:Nat} {β:Bt} {A:W} {w w':World} (h:aX lo β A w) (hb:Below w.heap.size w w') (h1:w'.os=w.os) (h2:w'.tape=w.tape) (h3:w'.output=w.output):Go lo β A w β A w' :=
 Go.kept h hb.size (fun b hb'=>hb.block b hb') h1 h2 h3
abbrev Zp:Value->Option (DataW Unit × List MemPlace):=fun _=>some (.nil,[])
theorem zQm {P:Program} {ρ ρ':Ren} (L:SlLaysZ.n6 P ρ) (L':SlLaysZ.n10 P ρ') (hs:∀ m,AnyZ.SortsIn P ρ Fence.wide m) (e6:∀ args w,(callFunc (ρ.f 6) args).run P w=.ok (.enter (ρ.f 6) args) w) (e9:∀ args w,(callFunc (ρ.f 9) args).run P w=.ok (.enter (ρ.f 9) args) w)
  (eg:∀ args w,(callFunc (ρ'.f 10) args).run P w=.ok (.enter (ρ'.f 10) args) w) (hstr:P.underlying (ρ'.t 26)=some .string)
  (lo:Nat) (A:W) (args:List AV) (v:AV) (A':W) (h:Zo (ρ'.f 10) (ρ.t 26) lo A args=some (v,A')):cZ P lo (ρ.f 6) args A (.ret v) A':=by
 intro β w xs hW hr
 unfold Zo at h
 split at h
 ·rename_i g bx
  replace h:=aM h; obtain ⟨hc,h⟩:=h
  have hc:=aG hc
  subst hc
  obtain ⟨x,xs1,rfl,⟨xf,xc,rfl,h1,h2⟩,h3⟩:=hr
  simp only [AV.aN] at h3 h1
  subst h3 h1
  obtain ⟨y,ys,rfl,⟨Bm,o,n,hbm,rfl⟩,h2⟩:=h2
  simp only [AV.aN] at h2
  subst h2
  split at h
  ·rename_i tm id hB
   obtain ⟨b',o',n',hb',hlt,rfl,c,k1,hm,hz,k3⟩:=hW.blk bx _ hB
   rw [hbm] at hb'
   simp only [aA,aB] at hb'
   obtain ⟨rfl,rfl,rfl⟩:=hb'
   obtain ⟨y,hy,b,nb,zZb,rfl⟩:=k3 0 _ rfl
   have hcell:w.cell? ⟨Bm,0,none⟩=some (.map (some b)):=by simp [World.cell?,k1,hy]
   have go:∀ (es:List (AV × AV × Nat)) (clk:Nat),A.H.get id=some (.map es clk)->∃ ms:List MapEntry,w.heap[b]?=some (.map ms.toArray clk)∧aW β es ms:=fun es clk hM=>by
    obtain ⟨b2,o2,n2,hb2,hlt2,rfl,ms,q1,q2⟩:=hW.blk id _ hM
    rw [zZb] at hb2
    simp only [aA,aB] at hb2
    obtain ⟨rfl,_,_⟩:=hb2
    exact ⟨ms,q1,q2⟩
   have run:∀ (nn:Nat) (D:DataW Unit),w.ownsMap P (ρ'.t 26) Zp b nn D->Maps.size D <= 1->Calls P (ρ.f 6) #[.func (.func (ρ'.f 10)) #[] #[.pointer (some ⟨Bm,0,none⟩)]] w fun e w'=>∃ (v:Value) (ss:List (List UInt8)),e=.returned v∧ss.Perm (strKeys D) ∧
     w'.ownsRow w.heap.size (ρ.t 26) 1 v ss.length ((ss.mergeSort (fun x y=>decide (x <= y))).map encStr)∧(v=.slice none 0 0 <-> ss=[])∧Below w.heap.size w w':=fun nn D hown hsz=>by
    have hseq:=AnyZ.keys_gives L' Fence.wide 2 trivial rfl (by omega) Bm b nn D w hlt hcell hown
    exact (callsIn_wide (n:=5)).1 (AnyZ.sorted_in L Fence.wide 5 trivial trivial trivial trivial rfl (by omega) (hs _) e9 (ρ'.f 10) _ trivial eg _ _ (by unfold maxLen; omega) (by omega) w hseq)
   split at h
   ·rename_i clk hM
    simp only [aA,aB] at h
    obtain ⟨rfl,rfl⟩:=h
    obtain ⟨ms,q1,q2⟩:=go _ _ hM
    simp only [aW] at q2
    subst q2
    have hown:w.ownsMap P (ρ'.t 26) Zp b 0 (.map []):=⟨_,clk,q1,⟨by simp,⟨by simp,by simp,by simp⟩,by simp⟩,by simp,rfl⟩
    refine .inl ⟨e6 _ w,(run 0 _ hown (Nat.zero_le _)).mono ?_⟩
    rintro e w' ⟨v,ss,rfl,hp,hrow,hnil,hb⟩
    have hss:ss=[]:=List.Perm.eq_nil hp
    have hv:=hnil.2 hss
    subst hv
    exact ⟨β,Go.below hW hb hb.os hb.tape hb.output,_,rfl,rfl⟩
   ·rename_i en clk hM
    replace h:=aM h; obtain ⟨hborn,h⟩:=h
    rw [Nat.blt_eq] at hborn
    split at h
    ·rename_i k hk
     replace h:=aM h; obtain ⟨hlen,h⟩:=h
     replace h:=aC h; obtain ⟨A1,hA,h⟩:=h
     simp only [aA,aB] at h
     obtain ⟨rfl,rfl⟩:=h
     rw [Nat.ble_eq,len_eq] at hlen
     obtain ⟨ms,q1,y,ys,rfl,r1,r2,r3,r4⟩:=go _ _ hM
     simp only [aW] at r4
     subst r4
     rw [hk] at r1
     obtain ⟨ba,hkey,hba⟩:=r1
     have hsz:ba.size <= maxLen:=by
      have:ba.size=k.length:=by rw [<- hba,List.length_map]; rfl
      unfold maxLen; omega
     have hkf:keyOf P (ρ'.t 26) y.key=some (.string ba.data.toList):=by
      rw [hkey]
      simp [keyOf,hstr,mapKey,hsz]
     have hrd:rd P (ρ'.t 26) Zp y=some (.string ba.data.toList,.nil):=by simp [Go.WideElems.rd,hkf]
     have hown:w.ownsMap P (ρ'.t 26) Zp b 1 (.map [(.string ba.data.toList,.nil)]):=⟨_,clk,q1,⟨by simp [maxLen],⟨by simp; omega,by simp,by simp⟩,by simp [hrd]⟩,by simp,by simp [Go.WideElems.rg,hrd,DataW.insert]⟩
     refine .inl ⟨e6 _ w,(run 1 _ hown (by simp [Maps.size])).mono ?_⟩
     rintro e w' ⟨v,ss,rfl,hp,hrow,hnil,hb⟩
     have hss:ss=[ba.data.toList]:=List.Perm.eq_singleton hp
     subst hss
     rcases hrow.2 with ⟨_,h0⟩ | ⟨g,cap,cur,rfl,hge,hcell2,r5,r6,r7,r8⟩
     ·cases h0
     simp only [List.length_singleton,Nat.one_mul,Nat.mul_one,List.mergeSort_singleton,List.map_cons,List.map_nil] at r5 r7 r8
     have hcur:∃ rest,cur.toList=[encStr ba.data.toList]++rest:=⟨cur.toList.drop 1,by rw [<- r8]; exact (List.take_append_drop 1 _).symm⟩
     obtain ⟨rest,hrest⟩:=hcur
     have hg:w.heap.size <= g:=hge
     have zQn:g < w'.heap.size:=(Array.getElem?_eq_some_iff.1 hcell2).1
     unfold yN at hA
     rw [eD] at hA
     have hbig:=Ga hA
     unfold rT at hA
     replace hA:=aM hA; obtain ⟨_,hA⟩:=hA
     rw [eD] at hA
     simp only [aA] at hA
     subst hA
     refine ⟨_,Go.import hW hbig hb.size (fun b hb'=>hb.block b hb') hg zQn (n0:=cur.size) ⟨cur,ρ.t 26,(0,0),hcell2,⟨rfl,zFn hbig⟩,fun _ i _ h=>by simp at h,fun i u hu=>?_⟩ hb.os hb.tape hb.output,_,rfl,g,0,cur.size,cap,upd_same _ _ _,rfl,Nat.zero_le _,r5,r6,by omega⟩
     match i,hu with
     | 0,hu =>
      simp only [List.getElem?_cons_zero,aA] at hu
      subst hu
      refine ⟨encStr ba.data.toList,?_,⟨ba.data.toList.toArray⟩,rfl,by simpa using hba⟩
      rw [<- Array.getElem?_toList,hrest]
      rfl
     | i+1,hu=>simp at hu
    ·cases h
   ·cases h
  ·cases h
 ·cases h
end Go.Ce
