/- Part of a proof over this seat: a library of my own, and what it says of this seat. No statement is proved here. -/
import Derived.Test.YthhbdkdofhhoeaaGreatDoorPartBK
namespace Go.Dec
theorem zZb(p:Nat->Bool)(k:Nat):zAr k (mH p k)=((List.range 64).filter λj=>p (64*k+j)).map λj=>UInt8.ofNat (64*k+j):=by
 unfold zAr;congr 1;apply List.filter_congr;intro j hj;rw[uD];have:j<64:=by simpa using hj
 simp[this]
theorem zSm(p:Nat->Bool)(k:Nat):(((List.range 64).map λj=>64*k+j).filter p).map UInt8.ofNat=((List.range 64).filter λj=>p (64*k+j)).map λj=>UInt8.ofNat (64*k+j):=by
 rw[List.filter_map,List.map_map];rfl
theorem zVk(p:Nat->Bool):lU (wd p)=aT p:=by
 have e:List.range 256=(List.range 64).map (λj=>64*0+j)++(List.range 64).map (λj=>64*1+j)++(List.range 64).map (λj=>64*2+j)++(List.range 64).map (λj=>64*3+j):=by decide +kernel
 unfold aT;rw[e];simp only[List.filter_append,List.map_append,zSm];unfold lU wd;simp only[Ei,word,Int.toNat_natCast,zZb,List.append_nil,List.append_assoc]
theorem Tp{n:Nat}(p:Nat->Bool):oD n (wd p)=some (aT p):=by
 unfold oD;have h:∀ k,0<=word p k/\word p k<18446744073709551616:=λk=>by have:=jP p k;unfold word;omega
 rw[aC (by
  rw[aF,List.all_eq_true];refine⟨rfl,λw hw=>?_⟩;have:w=word p 0\/w=word p 1\/w=word p 2\/w=word p 3:=by simpa [wd]using hw
  rcases this with rfl|rfl|rfl|rfl<;>simp[h]),zVk]
section
variable {n:Nat}{l:List Nd}
theorem Od(bs:List UInt8):(bF bs).length=bs.length:=by simp[bF]
theorem zZc{bs:List UInt8}{i:Nat}(h:i<bs.length)(d:Int):bE d (bF bs) (i:Int)=(bs[i].toNat:Int):=by
 rw[qI (by rw[Od];exact h)];simp[bF]
end
end Go.Dec
namespace Go.Dec
section
variable {n:Nat}{w:List Int}{a b lo hi m:Int}{u:Unit}
end
end Go.Dec
namespace Go.Dec
section
variable {l:List Nd}
theorem At.take{o:Nat}{t:Pt}(h:At l o t):l.take (o+t.sz)=l.take o++t.enc o:=by
 obtain⟨pre,post,rfl,hp⟩:=h;subst hp;have h1:(pre++t.enc pre.length++post).take (pre.length+t.sz)=pre++t.enc pre.length:=by
  rw[List.take_append_of_le_length (by rw[List.length_append,Pt.iP];exact aQ _),List.take_of_length_le (by rw[List.length_append,Pt.iP];exact aQ _)]
 rw[h1,List.append_assoc,List.take_left]
end
end Go.Dec
namespace Go.Dec
end Go.Dec
