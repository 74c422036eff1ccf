/- Part of a proof over this seat: a library of my own, and what it says of this seat. No statement is proved here. -/
import Derived.Test.YthhbdkdofhhoeaaGreatDoorPartBN
import Derived.Test.YthhbdkdofhhoeaaGreatDoorPartBQ
import Derived.Test.YthhbdkdofhhoeaaGreatDoorPartBP
namespace Go.Dec
def Bw (c:UInt8):List UInt8:=bif c==10 then [92,110] else bif gM.contains c then [92,c] else [c]
def kX(p:Nat->Bool):List UInt8 :=
 match aT p with
 |[c]=>Bw c
 |_=>iX p
theorem zVu(p:Nat->Bool):(kX p).length<=270:=by
 have h:=zVt p;unfold kX;split
 ·unfold Bw;rename_i c _;cases c==10<;>cases gM.contains c<;>simp
 ·exact h
section
variable {n:Nat}{l:List Nd}{p:Nat->Bool}
theorem zGy:((List.range 256).all λi=>Go.Lib.contains gM [UInt8.ofNat i]==gM.contains (UInt8.ofNat i))=true:=by decide +kernel
theorem zNm(hn:400<=n):xB n (wd p)=some (kX p):=by
 unfold xB;simp only;rw[Tp,bA,zNl hn];unfold kX iX;match aT p with
 |[]=>rfl
 |[c]=>
  rw[aS (by rfl)];unfold Bw Oe;simp only[bA];by_cases h10:c=10
  ·subst h10;rfl
  ·have e:(c==10)=false:=by simpa using h10
   rw[aS (by simpa using h10),e];simp only[cond_false];have hi:=kD zGy c.toNat_lt;rw[Bt,beq_iff_eq]at hi;unfold strings_Contains;simp only;have hi':Go.Lib.contains [46,91,92,40,41,42,43,63,123,125,124,94,36] [c]=gM.contains c:=hi;rw[aC (by rfl),hi',bA,aC (by simp[aH])];cases gM.contains c<;>rfl
 |a::b::l =>
  rw[bD (by simp;omega)];rfl
theorem zMh{c:UInt8}(hn:300<=n):rQ n ((c.toNat:Int),[46,91,92,40,41,42,43,63,123,125,124,94,36])=some (Bw c):=by
 unfold rQ Bw;simp only;have hb:dZ [(c.toNat:Int)]=[c]:=by simp[dZ]
 rw[show((c.toNat:Int)==10)=(c==10)by rw[zSf];exact eqI 10,hb];cases c==10
 ·have h:=Ww (n:=n) gM (by simp[gM];omega) (by simp[gM]) c;rw[bR,show([46,91,92,40,41,42,43,63,123,125,124,94,36]:List UInt8)=gM from rfl,h,bA,aC (by simp[aH]),zLj];simp only[cond_false];cases gM.contains c<;>rfl
 ·rfl
theorem zGz(hn:400<=n):zB n (bx p)=some (kX p):=by
 unfold zB Bp;simp only;rw[zGu (by omega),bA,Av (by omega),zGx (by omega)];by_cases h0:(aT p).length=0
 ·rw[bD (by simp[h0])];have:aT p=[]:=List.length_eq_zero_iff.1 h0;unfold kX iX;rw[this];rfl
 ·rw[aS (by rw[Bool.eq_false_iff,ne_eq,beq_iff_eq];omega)];by_cases h1:(aT p).length=1
  ·rw[bD (by simp[h1])];obtain⟨c,hc⟩:=List.length_eq_one_iff.1 h1;unfold kX;rw[hc];simp only[bA];rw[aC (by rfl),show bE 0 [c] 0=c from rfl,zMh (by omega)];rfl
  ·rw[aS (by rw[Bool.eq_false_iff,ne_eq,beq_iff_eq];omega)];have hsh:kX p=iX p:=by
    unfold kX;match hb:aT p,h0,h1 with
    |[],h0,_=>rfl
    |[c],_,h1=>simp at h1
    |a::b::l,_,_=>rfl
   rw[hsh];by_cases Oj:(aT p).length=256
   ·rw[bD (by simp[Oj])];unfold iX;match hb:aT p,h0,h1,Oj with
    |[],h0,_,_=>simp at h0
    |[c],_,h1,_=>simp at h1
    |a::b::l,_,_,Oj =>
     simp only;rw[show((a::b::l).length==256)=true by rw[beq_iff_eq];exact Oj];rfl
   ·rw[aS (by rw[Bool.eq_false_iff,ne_eq,beq_iff_eq];omega),zVs (by omega) Oj];rfl
end
end Go.Dec
namespace Go.Dec
section
variable {n:Nat}{l:List Nd}
end
end Go.Dec
