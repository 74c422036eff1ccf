/- Part of a proof over this seat: a library of my own, and what it says of this seat. No statement is proved here. -/
import Derived.Test.YthhbdkdofhhoeaaGreatDoorPartAT
namespace Go.Dec
open Go.RowKit
theorem zQs:∀ {w:Nat},0<w->∃ k m,w=2 ^ k*(2*m+1)
 |w,h=>by
  by_cases h1:w % 2=1
  ·exact⟨0,w / 2,by simp;omega⟩
  ·have:w / 2<w:=by omega
   obtain⟨k,m,hk⟩:=zQs (w:=w / 2) (by omega);refine⟨k+1,m,?_⟩;rw[Nat.pow_succ,Nat.mul_comm (2 ^ k) 2,Nat.mul_assoc,<- hk];omega
termination_by w=>w
theorem zTj{k m j:Nat}:(2 ^ k*(2*m+1)).testBit j=(if j<k then false else if j=k then true else m.testBit (j-k-1)):=by
 rw[Nat.testBit_two_pow_mul];by_cases h:j<k
 ·simp[h,show ¬ k<=j by omega]
 ·rw[if_neg h];have hk:k<=j:=by omega
  simp only[ge_iff_le,hk,decide_true,Bool.true_and];by_cases h2:j=k
  ·subst h2;simp[Nat.testBit_zero]
  ·rw[if_neg h2];obtain⟨i,hi⟩:∃ i,j-k=i+1:=⟨j-k-1,by omega⟩;rw[hi,Nat.testBit_succ];congr 1;omega
theorem yBm{k m j:Nat}:(2 ^ k*(2*m+1)-1).testBit j=(if j<k then true else if j=k then false else m.testBit (j-k-1)):=by
 have e:2 ^ k*(2*m+1)-1=2 ^ k*(2*m)+(2 ^ k-1):=by
  have:=Nat.two_pow_pos k;rw[Nat.mul_add,Nat.mul_one];omega
 have hlt:2 ^ k-1<2 ^ k:=by have:=Nat.two_pow_pos k;omega
 rw[e,Nat.testBit_two_pow_mul_add _ hlt];by_cases h:j<k
 ·simp[h,Nat.testBit_two_pow_sub_one]
 ·rw[if_neg h,if_neg h];by_cases h2:j=k
  ·subst h2;simp[Nat.testBit_zero]
  ·rw[if_neg h2];obtain⟨i,hi⟩:∃ i,j-k=i+1:=⟨j-k-1,by omega⟩;rw[hi,Nat.testBit_succ];congr 1;omega
theorem and_neg{k m:Nat}(hw:2 ^ k*(2*m+1)<2 ^ 64):(2 ^ k*(2*m+1)) &&& (2 ^ 64-2 ^ k*(2*m+1))=2 ^ k:=by
 apply Nat.eq_of_testBit_eq;intro j;have hpos:0<2 ^ k*(2*m+1):=Nat.mul_pos (Nat.two_pow_pos k) (by omega);have e:2 ^ 64-2 ^ k*(2*m+1)=2 ^ 64-((2 ^ k*(2*m+1)-1)+1):=by omega
 have hk:k<64:=by
  rcases jZ k 64 with h|h
  ·exact h
  ·have h1:=Nat.pow_le_pow_right (show 0<2 by omega) h;have h2:2 ^ k*1<=2 ^ k*(2*m+1):=Nat.mul_le_mul_left _ (by omega);omega
 rw[Nat.testBit_and,e,Nat.testBit_two_pow_sub_succ (by omega),zTj,yBm,Nat.testBit_two_pow];by_cases h1:j<k
 ·simp[h1];omega
 ·by_cases h2:j=k
  ·subst h2;simp[hk]
  ·have h3:¬ k=j:=λh=>h2 h.symm
   simp only[h1,h2,h3,if_false,decide_false];cases m.testBit (j-k-1)<;>simp
theorem yMl:∀ k:Nat,k<64->∃ j:Nat,j<64/\IntKind.u64.wrap (((2 ^ k:Nat):Int)*285870213051353865) / 288230376151711744=(j:Int)/\qY.getD j 0=(k:Int):=by
 have h:∀ k:Nat,k<64->(IntKind.u64.wrap (((2 ^ k:Nat):Int)*285870213051353865) / 288230376151711744).toNat<64/\IntKind.u64.wrap (((2 ^ k:Nat):Int)*285870213051353865) / 288230376151711744=((IntKind.u64.wrap (((2 ^ k:Nat):Int)*285870213051353865) / 288230376151711744).toNat:Int)/\qY.getD (IntKind.u64.wrap (((2 ^ k:Nat):Int)*285870213051353865) / 288230376151711744).toNat 0=(k:Int):=by decide +kernel
 intro k hk;obtain⟨h1,h2,h3⟩:=h k hk;exact⟨_,h1,h2,h3⟩
def Ms (w:Nat):List Nat:=(List.range 64).filter fun k=>w.testBit k
theorem yEt:Ms 0=[]:=by simp[Ms]
theorem zAh{k m:Nat}(hw:2 ^ k*(2*m+1)<2 ^ 64):k<64/\Ms (2 ^ k*(2*m+1))=k::Ms ((2 ^ k*(2*m+1)) &&& (2 ^ k*(2*m+1)-1)):=by
 have hk:k<64:=by
  rcases jZ k 64 with h|h
  ·exact h
  ·have h1:=Nat.pow_le_pow_right (show 0<2 by omega) h;have h2:2 ^ k*1<=2 ^ k*(2*m+1):=Nat.mul_le_mul_left _ (by omega);omega
 refine⟨hk,?_⟩;have split:List.range 64=List.range k++k::(List.range (64-k-1)).map (λi=>k+1+i):=by
  exact range_split hk
 have hA:∀ w':Nat,(∀ j,j<k->w'.testBit j=false)->(List.range k).filter (λj=>w'.testBit j)=[]:=λw' h=>by
  rw[List.filter_eq_nil_iff];intro j hj;rw[h j (List.mem_range.1 hj)];simp
 have hlow:∀ j,((2 ^ k*(2*m+1)) &&& (2 ^ k*(2*m+1)-1)).testBit j=(if j<=k then false else(2 ^ k*(2*m+1)).testBit j):=λj=>by
  rw[Nat.testBit_and,zTj,yBm];by_cases h1:j<k
  ·simp[h1,show j<=k by omega]
  ·by_cases h2:j=k
   ·subst h2;simp
   ·simp only[h1,h2,if_false,show ¬ j<=k by omega];cases m.testBit (j-k-1)<;>rfl
 unfold Ms;rw[split,List.filter_append,List.filter_append,List.filter_cons,List.filter_cons];rw[hA _ (λj hj=>by rw[zTj,if_pos hj]),hA _ (λj hj=>by rw[hlow,if_pos (by omega)])];rw[if_pos (by rw[zTj,if_neg (by omega),if_pos rfl]),if_neg (by rw[hlow,if_pos (bA _)];simp)];simp only[List.nil_append,aQ,true_and];refine List.filter_congr λj hj=>?_
 obtain⟨i,_,rfl⟩:=List.mem_map.1 hj;rw[hlow,if_neg (by omega)]
end Go.Dec
