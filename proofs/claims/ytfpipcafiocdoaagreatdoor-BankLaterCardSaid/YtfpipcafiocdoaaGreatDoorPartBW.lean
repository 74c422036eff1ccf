/- Part of a proof over this seat: a library of my own, and what it says of this seat. No statement is proved here. -/
import Derived.Test.YtfpipcafiocdoaaGreatDoorPartBU
import Derived.Test.YtfpipcafiocdoaaGreatDoorPartBV
namespace Go.Dec
abbrev ltX (a t d:List UInt8) (i:Int) (b:Int × Int × Int × Int × Int × List UInt8 × List UInt8 × Bool × Bool × Bool × List (Bool × Int × Unit) × LtQ × Unit) (row:LtQ) :
  List UInt8 × List UInt8 × List UInt8 × Int × Bool × List (List (Int × List (Int) × Int × Int × Int × Int × Int × Unit) × Bool × Unit) × List dM × Int × Int × Int × Int × Int × List UInt8 × List UInt8 × Bool × Bool × Bool × List (Bool × Int × Unit) × LtQ × LtQ × Unit :=
 (a,t,d,i,false,[],csL t,b.1,b.2.1,b.2.2.1,b.2.2.2.1,b.2.2.2.2.1,b.2.2.2.2.2.1,b.2.2.2.2.2.2.1,b.2.2.2.2.2.2.2.1,b.2.2.2.2.2.2.2.2.1,b.2.2.2.2.2.2.2.2.2.1,b.2.2.2.2.2.2.2.2.2.2.1,b.2.2.2.2.2.2.2.2.2.2.2.1,row,())
theorem vP (a t d:List UInt8) (m:Nat) (i j:Int) (hm:0 < m) (hi:i < 4) (hj:IntKind.wrap .i64 (i+1)=j) (b b':Int × Int × Int × Int × Int × List UInt8 × List UInt8 × Bool × Bool × Bool × List (Bool × Int × Unit) × LtQ × Unit) (row out:LtQ)
  (hrow:row.length+out.length <= 10) (h:vL 2000 ((false,([],(csL t,()))),false,b,ltF d)=some (b',ltF d,out)) :
  fix (bZ 2000) m (ltX a t d i b row)=fix (bZ 2000) (m - 1) (ltX a t d j b' (row++out)):=by
 rw [Jo hm,bZ]
 simp only
 rw [kH (decide_eq_true hi)]
 rw [show vL 2000 ((false,([],(csL t,()))),false,(b.1,(b.2.1,(b.2.2.1,(b.2.2.2.1,(b.2.2.2.2.1,(b.2.2.2.2.2.1,(b.2.2.2.2.2.2.1,(b.2.2.2.2.2.2.2.1,(b.2.2.2.2.2.2.2.2.1,(b.2.2.2.2.2.2.2.2.2.1,(b.2.2.2.2.2.2.2.2.2.2.1,(b.2.2.2.2.2.2.2.2.2.2.2.1,())))))))))))),ltF d)=some (b',ltF d,out) from h,jW]
 rw [dH (Nat.ble_eq_true_of_le (show (row.length+out.length) * 24 <= room by unfold room; omega)),hj]
theorem zCj (a t d:List UInt8) (m:Nat) (hm:0 < m) (ha:a.length <= 60) (ht:t.length <= 60) (hd:d.length <= 100) (row:LtQ)
  (hb:kL 2000 row=some (((((a++[10])++t)++[10])++d)++(if d=[]∨d.getLast?=some 10 then [] else [10])++[122,10])) :
  fix (bZ 2000) m (ltX a t d 4 (zPr a) row)=some true:=by
 have hmax:∀ k:Nat,k <= 1000->decide (k <= gL)=true:=fun k hk=>decide_eq_true (by unfold gL; omega)
 rw [Jo hm,bZ]
 simp only
 rw [gN (by rfl),dH (hmax _ (by simp; omega)),dH (hmax _ (by simp; omega)),dH (hmax _ (by simp; omega)),dH (hmax _ (by simp; omega))]
 by_cases h0:d=[]
 ·subst h0
  rw [gN (by rfl)]
  simp only [true_or,if_true,List.append_nil] at hb
  simp only [List.append_nil]
  rw [hb,jW,dH (hmax _ (by simp; omega)),kH (by simp)]
  rfl
 ·rw [kH (by cases d with | nil=>exact absurd rfl h0 | cons x xs=>rfl)]
  obtain ⟨ds,x,rfl⟩:∃ ds x,d=ds++[x]:=⟨d.dropLast,d.getLast h0,(List.dropLast_concat_getLast h0).symm⟩
  have hl:(ds++[x]).length=ds.length+1:=by simp
  rw [hl] at hd
  have h1:((ds++[x]).length:Int) - 1=ds.length:=by rw [hl]; omega
  rw [h1,Cz (by omega) (by omega),dH (by unfold inB; rw [Bool.and_eq_true]; exact ⟨decide_eq_true (by omega),decide_eq_true (by rw [hl]; omega)⟩)]
  have hg:dO 0 (ds++[x]) (ds.length:Int)=x:=by unfold dO; simp
  rw [hg]
  simp only [List.append_eq_nil_iff,List.cons_ne_self,and_false,false_or,List.getLast?_append,List.getLast?_singleton,Option.some_or,Option.some.injEq,reduceCtorEq] at hb
  by_cases hx:x=10
  ·subst hx
   rw [gN (by rfl)]
   simp only [if_true,List.append_nil] at hb
   rw [hb,jW,dH (hmax _ (by simp; omega)),kH (by simp)]
   rfl
  ·have hx2:((x.toNat:Int) != 10)=true:=by
    simp only [bne_iff_ne,ne_eq]
    intro he
    exact hx (UInt8.toNat_inj.1 (by simpa using (by omega:x.toNat=10)))
   rw [kH hx2,dH (hmax _ (by simp; omega))]
   rw [if_neg hx] at hb
   rw [hb,jW,dH (hmax _ (by simp; omega)),kH (by simp)]
   rfl
theorem ends (d:UInt8) (ds:List UInt8) (hd:(d :: ds).length <= 100):∃ c e,strings_CutSuffix 2000 (d :: ds,[10])=some (c,e)∧(e=true∧d :: ds=c++[10]∨e=false∧d :: ds=c∧(d :: ds).getLast? ≠ some 10):=by
 obtain ⟨l,x,hl⟩:∃ l x,d :: ds=l++[x]:=⟨(d :: ds).dropLast,(d :: ds).getLast (by simp),(List.dropLast_concat_getLast (by simp)).symm⟩
 have hn:l.length <= 1000:=by
  have:=congrArg List.length hl
  rw [List.length_append,List.length_singleton] at this
  omega
 rw [hl]
 by_cases hx:x=10
 ·subst hx
  exact ⟨l,true,zUl 2000 l hn,.inl ⟨rfl,rfl⟩⟩
 ·exact ⟨l++[x],false,yAo 2000 l x hx hn,.inr ⟨rfl,rfl,by simp [hx]⟩⟩
theorem Ae (x:List UInt8 × List UInt8 × List UInt8):sG 2000 x=some true:=by
 obtain ⟨a,t,d⟩:=x
 unfold sG
 simp only
 by_cases ha:60 < a.length
 ·rw [kH (decide_eq_true (by omega))]; rfl
 rw [gN (decide_eq_false (by omega))]
 by_cases ht:60 < t.length
 ·rw [kH (decide_eq_true (by omega))]; rfl
 rw [gN (decide_eq_false (by omega))]
 by_cases hd:100 < d.length
 ·rw [kH (decide_eq_true (by omega))]; rfl
 rw [gN (decide_eq_false (by omega))]
 rw [show shown15 2000 ()=some true from rfl,jW,gN (by rfl),dH (decide_eq_true (by unfold gL; simp; omega))]
 rw [show Et 2000 (false,([],(csL t,())))=some (0,(0,(0,(0,((-1),([],([],(false,(false,(false,(R3,([],())))))))))))) from rfl,jW]
 rw [show zN 2000 ((0,(0,(0,(0,((-1),([],([],(false,(false,(false,(R3,([],())))))))))))),(a,(true,())),true)=some (bkL 0 a []) from rfl,jW]
 show fix (bZ 2000) 2000 (ltX a t d 0 (bkL 0 a []) [])=some true
 rw [vP a t d 2000 0 1 (by omega) (by omega) (by decide) _ _ _ [] (by simp) (Ru (yAl t a d (by omega)))]
 rw [vP a t d 1999 1 2 (by omega) (by omega) (by decide) _ _ _ [] (by simp) ((yCq (zUh t a d _)).trans (yAm t a d))]
 rw [vP a t d 1998 2 3 (by omega) (by omega) (by decide) _ _ _ [] (by simp) (Ru (yAn t a d))]
 match d,hd with
 | [],_ =>
  rw [vP a t [] 1997 3 4 (by omega) (by omega) (by decide) _ _ _ _ (by simp) (Ru (zUi t a))]
  refine zCj a t [] 1996 (by omega) (by omega) (by omega) (by simp) _ ?_
  rw [Ui (by simp) (by simp only [List.nil_append,lG,List.length_cons,List.length_nil] at *; omega) (by omega)]
  simp [nT]
 | d :: ds,hd =>
  obtain ⟨c,e,hc,hce⟩:=ends d ds (by omega)
  rw [vP a t (d :: ds) 1997 3 4 (by omega) (by omega) (by decide) _ _ _ _ (by simp) (Ru (zUk t a d ds c e hc))]
  refine zCj a t (d :: ds) 1996 (by omega) (by omega) (by omega) (by omega) _ ?_
  rcases hce with ⟨rfl,hd2⟩ | ⟨rfl,hd2,hl⟩
  ·have:=congrArg List.length hd2
   rw [List.length_append,List.length_singleton] at this
   rw [Ui (by simp) (by simp only [List.nil_append,lG,List.length_cons,List.length_nil] at *; omega) (by omega),hd2]
   simp [nT]
  ·have hne:¬ (d :: ds=[]∨(d :: ds).getLast?=some 10):=fun h=>h.elim (fun h=>by cases h) hl
   rw [if_neg hne,hd2]
   rw [hd2] at hd
   rw [Ui (by simp) (by simp only [List.nil_append,lG,List.length_cons,List.length_nil] at *; omega) (by omega)]
   simp [nT]
end Go.Dec
