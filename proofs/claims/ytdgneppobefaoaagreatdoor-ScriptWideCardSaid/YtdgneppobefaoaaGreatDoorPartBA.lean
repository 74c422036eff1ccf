/- Part of a proof over this seat: a library of my own, and what it says of this seat. No statement is proved here. -/
import Derived.Test.YtdgneppobefaoaaGreatDoorPartAY
import Derived.Test.YtdgneppobefaoaaGreatDoorPartAM
namespace Go.Ce
open Go.RowKit Go.Dec
def kT:List Nat->List Nat->List AV
 | [],[]=>[]
 | a :: w,[]=>[.st (a :: w).reverse,.bo false]
 | w,c :: r=>cnd (Nat.beq c 10) (.st w.reverse :: .bo true :: kT [] r) (kT (c :: w) r)
def Tq:Gv:=fun _ A xs=>match xs with
 | [.st []]=>some (.ns,A)
 | [.st (c :: l)]=>ck (Nat.ble (len l) 1000000) ((fun rows=>ob (sO A rows) fun A'=>fN (len rows / 2) fun n=>some (.sl A.nx 0 n n 2 false,A')) (kT [] (c :: l)))
 | _=>none
theorem Gu {β:Bt}:∀ (r w:List UInt8),AV.aN β (kT (w.reverse.map UInt8.toNat) (r.map UInt8.toNat)) ((jF w r).flatMap fun x=>[Value.string ⟨x.1.toArray⟩,.bool x.2.1])
 | [],w=>by
  cases hw:w.reverse with
  | nil =>
   have:w=[]:=by simpa using hw
   subst this
   simp only [List.map_nil,kT,jF]
   rfl
  | cons a u =>
   have hw2:w=(a :: u).reverse:=by rw [<- hw]; simp
   have hne:w ≠ []:=by rintro rfl; simp at hw
   have e1:jF w []=[(w,false,())]:=by
    cases w with
    | nil=>exact absurd rfl hne
    | cons b v=>rfl
   rw [e1]
   simp only [List.map_cons,List.map_nil,kT,List.flatMap_cons,List.flatMap_nil,List.append_nil]
   refine ⟨_,_,rfl,⟨⟨w.toArray⟩,rfl,?_⟩,_,_,rfl,rfl,rfl⟩
   rw [<- List.map_cons,<- List.map_reverse,<- hw2]
 | c :: r,w=>by
  have hbeq:Nat.beq c.toNat 10=decide (c=10):=by
   rw [Bool.eq_iff_iff]
   simp only [Nat.beq_eq,decide_eq_true_eq]
   constructor
   ·intro h; exact UInt8.toNat_inj.1 h
   ·intro h; subst h; rfl
  unfold jF
  by_cases h:c=10
  ·rw [if_pos h]
   have hb1:Nat.beq c.toNat 10=true:=by rw [hbeq]; simp [h]
   have e:kT (w.reverse.map UInt8.toNat) ((c :: r).map UInt8.toNat)=.st (w.reverse.map UInt8.toNat).reverse :: .bo true :: kT [] (r.map UInt8.toNat):=by
    cases hw:w.reverse.map UInt8.toNat with
    | nil=>simp only [List.map_cons,kT,hb1,cnd]
    | cons a u=>simp only [List.map_cons,kT,hb1,cnd]
   rw [e]
   simp only [List.flatMap_cons,List.cons_append,List.nil_append]
   refine ⟨_,_,rfl,⟨⟨w.toArray⟩,rfl,by simp⟩,_,_,rfl,rfl,?_⟩
   exact Gu r []
  ·rw [if_neg h]
   have hb1:Nat.beq c.toNat 10=false:=by rw [hbeq]; simp [h]
   have e:kT (w.reverse.map UInt8.toNat) ((c :: r).map UInt8.toNat)=kT (c.toNat :: w.reverse.map UInt8.toNat) (r.map UInt8.toNat):=by
    cases hw:w.reverse.map UInt8.toNat with
    | nil=>simp only [List.map_cons,kT,hb1,cnd]
    | cons a u=>simp only [List.map_cons,kT,hb1,cnd]
   rw [e]
   have:=Gu (β:=β) r (w++[c])
   simpa using this
theorem zNb {P:Program} {f:FuncId} {e:TypeId} (henter:∀ xs w,(callFunc f xs).run P w=.ok (.enter f xs) w)
  (hs:∀ (s:List UInt8) (w:World),s.length < 4294967281->Calls P f #[.string ⟨s.toArray⟩] w fun ed W'=>∃ v,ed=.returned v∧W'.os=w.os∧W'.tape=w.tape∧W'.output=w.output ∧
   W'.ownsRow w.heap.size e 2 v (dW s).length ((dW s).flatMap fun x=>[Value.string ⟨x.1.toArray⟩,.bool x.2.1])∧Below w.heap.size w W'∧(dW s=[]->v=.slice none 0 0))
  (lo:Nat) (A:W) (args:List AV) (v:AV) (A':W) (h:Tq lo A args=some (v,A')):cZ P lo f args A (.ret v) A':=by
 intro β w xs hW hr
 unfold Tq at h
 split at h
 ·simp only [aA,aB] at h
  obtain ⟨rfl,rfl⟩:=h
  obtain ⟨x,xs1,rfl,⟨ba,rfl,hba⟩,h3⟩:=hr
  simp only [AV.aN] at h3
  subst h3
  have h0:ba.data.toList=[]:=by simpa using hba
  refine .inl ⟨henter _ w,(hs ba.data.toList w (by rw [h0]; simp)).mono ?_⟩
  rintro ed w' ⟨v,rfl,h1,h2,h4,hrow,hb,hnl⟩
  have hv:=hnl (by rw [h0]; rfl)
  subst hv
  exact ⟨β,Go.below hW hb h1 h2 h4,_,rfl,rfl⟩
 ·rename_i c l
  replace h:=aM h; obtain ⟨hc,h⟩:=h
  replace h:=aC h; obtain ⟨A1,hA,h⟩:=h
  rw [eD] at h
  simp only [aA,aB] at h
  obtain ⟨rfl,rfl⟩:=h
  rw [Nat.ble_eq,len_eq] at hc
  obtain ⟨x,xs1,rfl,⟨ba,rfl,hba⟩,h3⟩:=hr
  simp only [AV.aN] at h3
  subst h3
  have hlen:ba.data.toList.length=l.length+1:=by
   have:=congrArg List.length hba
   simpa using this
  have hrel:=Gu (β:=β) ba.data.toList []
  simp only [List.reverse_nil,List.map_nil,hba] at hrel
  have hl2:=hrel.length
  have hl3:∀ (L:List Line),(L.flatMap fun x=>[Value.string ⟨x.1.toArray⟩,.bool x.2.1]).length=L.length * 2:=fun L=>by
   induction L with
   | nil=>rfl
   | cons a L ih=>simp only [List.flatMap_cons,List.length_append,List.length_cons,List.length_nil,ih]; omega
  rw [hl3] at hl2
  have hsl:jF [] ba.data.toList=dW ba.data.toList:=rfl
  rw [hsl] at hrel hl2
  have hpos:0 < (dW ba.data.toList).length:=by
   rcases Nat.eq_zero_or_pos (dW ba.data.toList).length with h0 | h0
   ·have h1:dW ba.data.toList=[]:=List.eq_nil_of_length_eq_zero h0
    have h2:=zBj ba.data.toList
    rw [h1] at h2
    have h3:ba.data.toList=[]:=by simpa [joinL] using h2.symm
    rw [h3] at hlen
    simp at hlen
   ·exact h0
  refine .inl ⟨henter _ w,(hs ba.data.toList w (by omega)).mono ?_⟩
  rintro ed w' ⟨v,rfl,h1,h2,h4,hrow,hb,_⟩
  rcases hrow.2 with ⟨_,h0⟩ | ⟨g,cap,cur,rfl,hge,hcell2,r5,r6,r7,r8⟩
  ·omega
  have zQn:g < w'.heap.size:=(Array.getElem?_eq_some_iff.1 hcell2).1
  unfold sO at hA
  have hbig:=Ga hA
  unfold rT at hA
  replace hA:=aM hA; obtain ⟨_,hA⟩:=hA
  rw [eD] at hA
  simp only [aA] at hA
  subst hA
  have hn:len (kT [] (c :: l)) / 2=(dW ba.data.toList).length:=by rw [len_eq,hl2]; omega
  rw [hn]
  refine ⟨_,Go.import hW hbig hb.size (fun b hb'=>hb.block b hb') hge zQn (n0:=cur.size) ⟨cur,e,(0,0),hcell2,⟨rfl,Pf hbig⟩,fun _ i _ h=>by simp at h,fun i u hu=>?_⟩ h1 h2 h4,_,rfl,g,0,cur.size,cap,upd_same _ _ _,rfl,r5,r5,r6,by omega⟩
  obtain ⟨y,hy,hyr⟩:=hrel.get hu
  refine ⟨y,?_,hyr.mono (kS hW _)⟩
  rw [Nat.zero_add,<- Array.getElem?_toList]
  rw [<- r8] at hy
  rw [List.getElem?_take] at hy
  split at hy
  ·exact hy
  ·cases hy
 ·cases h
end Go.Ce
