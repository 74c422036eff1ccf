/- Part of a proof over this seat: a library of my own, and what it says of this seat. No statement is proved here. -/
import Derived.Test.YthhbdkdofhhoeaaGreatDoorPartBS
namespace Go.Dec
theorem and_split{y a M M' c:Nat}(hM:M=2 ^ 8*M'+c)(hM2:M=2 ^ 56*c+M')(hc:c<2 ^ 8)(hM':M'<2 ^ 56)(hy:y<2 ^ 56)(ha:a<2 ^ 8):(2 ^ 8*y+a) &&& M=2 ^ 8*(y &&& M)+(a &&& c):=by
 have e:y &&& M=y &&& M':=by
  apply Nat.eq_of_testBit_eq;intro j;rw[Nat.testBit_and,Nat.testBit_and,hM2,Nat.testBit_two_pow_mul_add _ hM'];by_cases hj:j<56
  ·rw[if_pos hj]
  ·rw[Nat.testBit_lt_two_pow (Nat.lt_of_lt_of_le hy (Nat.pow_le_pow_right (by omega) (show 56<=j by omega)))];simp
 rw[e]
 conv=>lhs;rw[hM]
 apply Nat.eq_of_testBit_eq;intro j;rw[Nat.testBit_and,Nat.testBit_two_pow_mul_add _ ha,Nat.testBit_two_pow_mul_add _ hc,Nat.testBit_two_pow_mul_add _ (Nat.and_lt_two_pow _ hc)];by_cases hj:j<8
 ·simp[hj]
 ·simp[hj]
def M1:Nat:=6148914691236517205
def M2:Nat:=3689348814741910323
def M3:Nat:=1085102592571150095
theorem and1{y a:Nat}(hy:y<2 ^ 56)(ha:a<256):(256*y+a) &&& M1=256*(y &&& M1)+(a &&& 85):=and_split (M':=24019198012642645) (by decide) (by decide) (by decide) (by decide) hy ha
theorem yFd{y a:Nat}(hy:y<2 ^ 56)(ha:a<256):(256*y+a) &&& M2=256*(y &&& M2)+(a &&& 51):=and_split (M':=14411518807585587) (by decide) (by decide) (by decide) (by decide) hy ha
theorem yIg{y a:Nat}(hy:y<2 ^ 56)(ha:a<256):(256*y+a) &&& M3=256*(y &&& M3)+(a &&& 15):=and_split (M':=4238682002231055) (by decide) (by decide) (by decide) (by decide) hy ha
def DG:List Nat->Nat | []=>0 | b :: l=>256*DG l+b
theorem zHw:∀ (l:List Nat),(∀ b∈l,b<256)->DG l<2 ^ (8*l.length)
 |[],_=>by decide
 |b::l,h=>by
  have h1:=zHw l (λx hx=>h x (by simp[hx]));have h2:=h b (by simp);rw[List.length_cons,show 8*(l.length+1)=8*l.length+8 by omega,Nat.pow_add];simp only[DG];omega
theorem zHx:∀ (l:List Nat),(∀ b∈l,b<=102)->255*DG l+102<=102*2 ^ (8*l.length)
 |[],_=>by decide
 |b::l,h=>by
  have h1:=zHx l (λx hx=>h x (by simp[hx]));have h2:=h b (by simp);rw[List.length_cons,show 8*(l.length+1)=8*l.length+8 by omega,Nat.pow_add];simp only[DG];omega
theorem zSv{l:List Nat}(h:∀ b∈l,b<256)(hl:l.length<=7):DG l<2 ^ 56:=Nat.lt_of_lt_of_le (zHw l h) (Nat.pow_le_pow_right (by omega) (by omega))
def u1 (a:Nat):Nat:=(a / 2 &&& 85)+(a &&& 85)
def u2 (a:Nat):Nat:=(a / 4 &&& 51)+(a &&& 51)
def u3 (a:Nat):Nat:=(a / 16+a) &&& 15
theorem yIh:((List.range 256).all λa=>decide ((a / 2 &&& 85)+(a &&& 85)=((128+a / 2) &&& 85)+(a &&& 85))&&decide (u1 a<256))=true:=by decide +kernel
theorem yIi:((List.range 256).all λa=>((List.range 4).all λq=>decide ((a / 4 &&& 51)=((q*64+a / 4) &&& 51)))&&(decide (u2 a<256)&&(decide (u2 a % 16<=6)&&decide (u2 a / 16<=6))))=true:=by decide +kernel
theorem yIj:((List.range 256).all λa=>(decide (a % 16>6)||decide (a / 16>6))||((List.range 7).all λq=>decide (((q*16+a / 16+a) &&& 15)=u3 a)))=true:=by decide +kernel
theorem yIk:((List.range 256).all λa=>decide (u3 (u2 (u1 a))<=8)&&(decide (u3 (u2 (u1 a))=0)==decide (a=0)))=true:=by decide +kernel
theorem V1:∀ (l:List Nat),(∀ b∈l,b<256)->l.length<=8->(DG l / 2 &&& M1)+(DG l &&& M1)=DG (l.map u1)/\∀ b∈l.map u1,b<256
 |[],_,_=>⟨by decide,by simp⟩
 |b::l,h,hl=>by
  obtain⟨h1,h2⟩:=V1 l (λx hx=>h x (by simp[hx])) (by simp at hl;omega);have hb:=h b (by simp);have hd:=zSv (l:=l) (λx hx=>h x (by simp[hx])) (by simp at hl;omega);have ht:=kD yIh hb;simp only[aF,decide_eq_true_eq]at ht;refine⟨?_,by
   intro x hx;rw[List.map_cons,List.mem_cons]at hx;rcases hx with rfl|hx
   ·exact ht.2
   ·exact h2 x hx⟩
  simp only[DG,List.map_cons];rw[and1 hd hb];have e:(256*DG l+b) / 2=256*(DG l / 2)+(DG l % 2*128+b / 2):=by omega
  rw[e,and1 (by omega) (by omega),<- h1];have e2:((DG l % 2*128+b / 2) &&& 85)+(b &&& 85)=u1 b:=by
   have:DG l % 2=0\/DG l % 2=1:=by omega
   rcases this with h0|h0<;>rw[h0]
   ·simp[u1]
   ·rw[Nat.one_mul];unfold u1;exact ht.1.symm
  omega
theorem V2:∀ (l:List Nat),(∀ b∈l,b<256)->l.length<=8->(DG l / 4 &&& M2)+(DG l &&& M2)=DG (l.map u2)/\∀ b∈l.map u2,b<256/\b % 16<=6/\b / 16<=6
 |[],_,_=>⟨by decide,by simp⟩
 |b::l,h,hl=>by
  obtain⟨h1,h2⟩:=V2 l (λx hx=>h x (by simp[hx])) (by simp at hl;omega);have hb:=h b (by simp);have hd:=zSv (l:=l) (λx hx=>h x (by simp[hx])) (by simp at hl;omega);have ht:=kD yIi hb;simp only[aF,decide_eq_true_eq]at ht;refine⟨?_,by
   intro x hx;rw[List.map_cons,List.mem_cons]at hx;rcases hx with rfl|hx
   ·exact ht.2
   ·exact h2 x hx⟩
  simp only[DG,List.map_cons];rw[yFd hd hb];have e:(256*DG l+b) / 4=256*(DG l / 4)+(DG l % 4*64+b / 4):=by omega
  rw[e,yFd (by omega) (by omega),<- h1];have e2:=kD ht.1 (show DG l % 4<4 by omega);simp only[decide_eq_true_eq]at e2;rw[<- e2];unfold u2;omega
theorem V3:∀ (l:List Nat),(∀ b∈l,b<256/\b % 16<=6/\b / 16<=6)->l.length<=8->((DG l / 16+DG l) &&& M3)=DG (l.map u3)
 |[],_,_=>by decide
 |b::l,h,hl=>by
  have h1:=V3 l (λx hx=>h x (by simp[hx])) (by simp at hl;omega);have hb:=h b (by simp);have hd:=zSv (l:=l) (λx hx=>(h x (by simp[hx])).1) (by simp at hl;omega);have hq:DG l % 16<=6:=by
   cases l with
   |nil=>decide
   |cons c l =>
    have:=(h c (by simp)).2.1;simp only[DG];omega
  have hd2:DG l / 16+DG l<2 ^ 56:=by
   have hle:=zHx l (λx hx=>by have:=h x (by simp[hx]);omega);have hp:2 ^ (8*l.length)<=2 ^ 56:=Nat.pow_le_pow_right (by omega) (by simp at hl;omega);omega
  have ht:=kD yIj hb.1;simp only[Bool.or_eq_true,decide_eq_true_eq]at ht;have ht:((List.range 7).all λq=>decide (((q*16+b / 16+b) &&& 15)=u3 b))=true:=by
   rcases ht with (ht|ht)|ht
   ·omega
   ·omega
   ·exact ht
  have e2:=kD ht (show DG l % 16<7 by omega);simp only[decide_eq_true_eq]at e2;simp only[DG,List.map_cons];have e:(256*DG l+b) / 16+(256*DG l+b)=256*(DG l / 16+DG l)+(DG l % 16*16+b / 16+b):=by omega
  rw[e,yIg hd2 (by omega),h1,e2]
theorem yGg(x:Nat):gT .u64 (x:Int) 1=((x / 2:Nat):Int):=Bc (k:=1) (by omega)
theorem yGh(x:Nat):gT .u64 (x:Int) 2=((x / 4:Nat):Int):=Bc (k:=2) (by omega)
theorem yGi(x:Nat):gT .u64 (x:Int) 4=((x / 16:Nat):Int):=Bc (k:=4) (by omega)
theorem yGj(x:Nat):gT .u64 (x:Int) 8=((x / 256:Nat):Int):=Bc (k:=8) (by omega)
theorem yFe(x:Nat):gT .u64 (x:Int) 16=((x / 65536:Nat):Int):=Bc (k:=16) (by omega)
theorem yFf(x:Nat):gT .u64 (x:Int) 32=((x / 4294967296:Nat):Int):=Bc (k:=32) (by omega)
theorem ia1{x:Nat}(h:x<2 ^ 64):cK .u64 .and (x:Int) 6148914691236517205=((x &&& M1:Nat):Int):=zSb h (by decide)
theorem ia2{x:Nat}(h:x<2 ^ 64):cK .u64 .and (x:Int) 3689348814741910323=((x &&& M2:Nat):Int):=zSb h (by decide)
theorem ia3{x:Nat}(h:x<2 ^ 64):cK .u64 .and (x:Int) 1085102592571150095=((x &&& M3:Nat):Int):=zSb h (by decide)
theorem yGk{x:Nat}(h:x<2 ^ 63):cK .i64 .and (x:Int) 127=((x % 128:Nat):Int):=by
 show IntKind.i64.wrap ((BitVec.ofInt 64 (x:Int) &&& BitVec.ofInt 64 ((127:Nat):Int)).toNat:Int)=_;rw[BitVec.toNat_and,bvN (by omega),bvN (by omega),show(127:Nat)=2 ^ 7-1 from rfl,Nat.and_two_pow_sub_one_eq_mod];exact bZ (by omega) (by omega)
theorem yFg{x:Nat}(hx:x<2 ^ 64):∃ l:List Nat,l.length=8/\(∀ b∈l,b<256)/\x=DG l:=by
 have key:∀ (k x:Nat),x<256 ^ k->∃ l:List Nat,l.length=k/\(∀ b∈l,b<256)/\x=DG l:=by
  intro k;induction k with
  |zero=>intro x h;exact⟨[],rfl,by simp,by simp at h;simp[DG,h]⟩
  |succ k ih =>
   intro x h;obtain⟨l,h1,h2,h3⟩:=ih (x / 256) (by rw[Nat.pow_succ]at h;omega);refine⟨x % 256::l,by simp[h1],?_,?_⟩
   ·intro b hb;rcases List.mem_cons.1 hb with rfl|hb
    ·omega
    ·exact h2 b hb
   ·simp only[DG,<- h3];omega
 exact key 8 x (by simpa using hx)
theorem Cw{c:Nat}{l:List Nat}(h:c<256):DG (c::l) / 256=DG l:=by simp only[DG];omega
theorem zCr:∀ (a b:List Nat),DG a+DG b=DG (List.zipWith (· + ·) a b++(a.drop b.length++b.drop a.length))
 |[],b=>by simp[DG]
 |a::l,[]=>by simp[DG]
 |a::l,b::m=>by
  have:=zCr l m;simp only[List.zipWith_cons_cons,List.length_cons,List.drop_succ_cons,List.cons_append,DG];omega
theorem zVw{c0 c1 c2 c3 c4 c5 c6 c7 y z v:Nat}(h0:c0<=8)(h1:c1<=8)(h2:c2<=8)(h3:c3<=8)(h4:c4<=8)(h5:c5<=8)(h6:c6<=8)(h7:c7<=8)(hy:DG [c0,c1,c2,c3,c4,c5,c6,c7]=y)(hz:y+y / 256=z)(hv:z+z / 65536=v):z<2 ^ 63/\v<2 ^ 63/\v+v / 4294967296<2 ^ 63/\(v+v / 4294967296) % 128=c0+c1+c2+c3+c4+c5+c6+c7:=by
 have e1:y / 256=DG [c1,c2,c3,c4,c5,c6,c7]:=by rw[<- hy,Cw (by omega)]
 have e2:z=DG [c0+c1,c1+c2,c2+c3,c3+c4,c4+c5,c5+c6,c6+c7,c7]:=by rw[<- hz,<- hy,Cw (by omega),zCr];rfl
 have e3:z / 65536=DG [c2+c3,c3+c4,c4+c5,c5+c6,c6+c7,c7]:=by
  rw[show(65536:Nat)=256*256 from rfl,<- Nat.div_div_eq_div_mul,e2,Cw (by omega),Cw (by omega)]
 have e4:v=DG [c0+c1+(c2+c3),c1+c2+(c3+c4),c2+c3+(c4+c5),c3+c4+(c5+c6),c4+c5+(c6+c7),c5+c6+c7,c6+c7,c7]:=by
  rw[<- hv,e3,e2,zCr];rfl
 have e5:v / 4294967296=DG [c4+c5+(c6+c7),c5+c6+c7,c6+c7,c7]:=by
  rw[show(4294967296:Nat)=256*256*256*256 from rfl,<- Nat.div_div_eq_div_mul,<- Nat.div_div_eq_div_mul,<- Nat.div_div_eq_div_mul,e4,Cw (by omega),Cw (by omega),Cw (by omega),Cw (by omega)]
 have e6:v+v / 4294967296=DG [c0+c1+(c2+c3)+(c4+c5+(c6+c7)),c1+c2+(c3+c4)+(c5+c6+c7),c2+c3+(c4+c5)+(c6+c7),c3+c4+(c5+c6)+c7,c4+c5+(c6+c7),c5+c6+c7,c6+c7,c7]:=by
  rw[e5,e4,zCr];rfl
 have hle:=λ(l:List Nat) (h:∀ b∈l,b<=102) (hl:l.length=8)=>(by
  have:=zHx l h;rw[hl]at this;omega:DG l<2 ^ 63)
 refine⟨?_,?_,?_,?_⟩
 ·rw[e2];exact hle _ (by simp;omega) rfl
 ·rw[e4];exact hle _ (by simp;omega) rfl
 ·rw[e6];exact hle _ (by simp;omega) rfl
 ·rw[e6];generalize hq:DG [c1+c2+(c3+c4)+(c5+c6+c7),c2+c3+(c4+c5)+(c6+c7),c3+c4+(c5+c6)+c7,c4+c5+(c6+c7),c5+c6+c7,c6+c7,c7]=q;rw[DG,hq];omega
theorem Vf{n x:Nat}(hx:x<2 ^ 64):∃ c:Nat,jC n (x:Int)=some (c:Int)/\c<=64/\(c=0<->x=0):=by
 obtain⟨l,hl,hall,hxe⟩:=yFg hx;obtain⟨e1,e2⟩:=V1 l hall (by omega);obtain⟨e3,e4⟩:=V2 _ e2 (by simp;omega);have e5:=V3 _ e4 (by simp;omega);rw[<- hxe]at e1;have l1:=zHw _ e2;have l2:=zHw _ (λb hb=>(e4 b hb).1);have l3:=zHx _ (λb hb=>(show b<=102 by have:=e4 b hb;omega));simp only[List.length_map,hl]at l1 l2 l3;have a1:(x / 2 &&& M1)<=M1:=Nat.and_le_right;have a2:(x &&& M1)<=M1:=Nat.and_le_right;match l,hl with
 |[b0,b1,b2,b3,b4,b5,b6,b7],_ =>
  have t4:=λ{a}(h:a<256)=>by
   have:=kD yIk h;simp only[aF,decide_eq_true_eq,beq_iff_eq,decide_eq_decide]at this;exact this
  have q0:=t4 (hall b0 (by simp));have q1:=t4 (hall b1 (by simp));have q2:=t4 (hall b2 (by simp));have q3:=t4 (hall b3 (by simp));have q4:=t4 (hall b4 (by simp));have q5:=t4 (hall b5 (by simp));have q6:=t4 (hall b6 (by simp));have q7:=t4 (hall b7 (by simp));have hx0:x=0<->(b0=0/\b1=0/\b2=0/\b3=0/\b4=0/\b5=0/\b6=0/\b7=0):=by
   rw[hxe];simp only[DG];omega
  unfold jC;simp only;have a3:=Nat.and_le_right (n:=DG (([b0,b1,b2,b3,b4,b5,b6,b7]).map u1) / 4) (m:=M2);have a4:=Nat.and_le_right (n:=DG (([b0,b1,b2,b3,b4,b5,b6,b7]).map u1)) (m:=M2);generalize hw1:DG (([b0,b1,b2,b3,b4,b5,b6,b7]).map u1)=w1 at *;generalize hw2:DG ((([b0,b1,b2,b3,b4,b5,b6,b7]).map u1).map u2)=w2 at *;have hc:∀ y:Nat,y<2 ^ 64->IntKind.u64.wrap (y:Int)=y:=λy h=>wrapN h
  rw[aC (by decide),aC (by decide),aC (by decide),aC (by decide),aC (by decide),aC (by decide)];have s1:(((x / 2 &&& M1:Nat):Int)+((x &&& M1:Nat):Int))=((w1:Nat):Int):=by rw[<- e1];exact(Int.natCast_add _ _).symm
  have s2:(((w1 / 4 &&& M2:Nat):Int)+((w1 &&& M2:Nat):Int))=((w2:Nat):Int):=by rw[<- e3];exact(Int.natCast_add _ _).symm
  have s3:(((w2 / 16:Nat):Int)+(w2:Int))=((w2 / 16+w2:Nat):Int):=(Int.natCast_add _ _).symm;have x2:x / 2<2 ^ 64:=by omega
  have w12:w1<2 ^ 64:=l1;have w14:w1 / 4<2 ^ 64:=by omega
  have w22:w2<2 ^ 64:=l2;have w23:w2 / 16+w2<2 ^ 64:=by omega
  rw[yGg,ia1 x2,ia1 hx,s1,hc _ w12,yGh,ia2 w14,ia2 w12,s2,hc _ w22,yGi,s3,hc _ w23,ia3 w23,e5];simp only[List.map_cons,List.map_nil];generalize u3 (u2 (u1 b0))=c0 at *;generalize u3 (u2 (u1 b1))=c1 at *;generalize u3 (u2 (u1 b2))=c2 at *;generalize u3 (u2 (u1 b3))=c3 at *;generalize u3 (u2 (u1 b4))=c4 at *;generalize u3 (u2 (u1 b5))=c5 at *;generalize u3 (u2 (u1 b6))=c6 at *;generalize u3 (u2 (u1 b7))=c7 at *;generalize hy:DG [c0,c1,c2,c3,c4,c5,c6,c7]=y;generalize hz:y+y / 256=z;generalize hv:z+z / 65536=v;obtain⟨r1,r2,r3,r4⟩:=zVw q0.1 q1.1 q2.1 q3.1 q4.1 q5.1 q6.1 q7.1 hy hz hv;have s4:((y:Int)+((y / 256:Nat):Int))=(z:Int):=by rw[<- hz];exact(Int.natCast_add _ _).symm
  have s5:((z:Int)+((z / 65536:Nat):Int))=(v:Int):=by rw[<- hv];exact(Int.natCast_add _ _).symm
  have s6:((v:Int)+((v / 4294967296:Nat):Int))=((v+v / 4294967296:Nat):Int):=(Int.natCast_add _ _).symm;rw[yGj,s4,hc _ (by omega),yFe,s5,hc _ (by omega),yFf,s6,hc _ (by omega),bZ (by omega) (by omega),yGk r3,r4];refine⟨_,rfl,by omega,?_⟩;rw[hx0,<- q0.2,<- q1.2,<- q2.2,<- q3.2,<- q4.2,<- q5.2,<- q6.2,<- q7.2];omega
end Go.Dec
namespace Go.Dec
theorem Et{p:Nat->Bool}{k:Nat}:mH p k=0<->∀ j,j<64->p (64*k+j)=false:=by
 constructor
 ·intro h j hj;have:=uD p k j;rw[h,decide_eq_true hj,Bool.true_and]at this;rw[<- this];simp
 ·intro h;apply Nat.eq_of_testBit_eq;intro j;rw[uD];by_cases hj:j<64
  ·rw[h j hj];simp
  ·simp[hj]
theorem zNo{p:Nat->Bool}:fK p=true<->(mH p 0=0/\mH p 1=0/\mH p 2=0/\mH p 3=0):=by
 rw[Es,Et,Et,Et,Et];constructor
 ·intro h;exact⟨λj hj=>h _ (by omega),λj hj=>h _ (by omega),λj hj=>h _ (by omega),λj hj=>h _ (by omega)⟩
 ·rintro⟨h0,h1,h2,h3⟩ i hi;by_cases a:i<64
  ·have:=h0 i a;rwa [show 64*0+i=i by omega]at this
  ·by_cases b:i<128
   ·have:=h1 (i-64) (by omega);rwa [show 64*1+(i-64)=i by omega]at this
   ·by_cases c:i<192
    ·have:=h2 (i-128) (by omega);rwa [show 64*2+(i-128)=i by omega]at this
    ·have:=h3 (i-192) (by omega);rwa [show 64*3+(i-192)=i by omega]at this
theorem zNp{n:Nat}(hn:5<=n)(p:Nat->Bool):∃ c:Int,Gm n (wd p)=some c/\(c==0)=fK p:=by
 obtain⟨c0,a0,b0,d0⟩:=Vf (n:=n) (jP p 0);obtain⟨c1,a1,b1,d1⟩:=Vf (n:=n) (jP p 1);obtain⟨c2,a2,b2,d2⟩:=Vf (n:=n) (jP p 2);obtain⟨c3,a3,b3,d3⟩:=Vf (n:=n) (jP p 3);refine⟨((c0+c1+c2+c3:Nat):Int),?_,?_⟩
 ·unfold Gm;simp only;have g0:bE (Ty.dflt (.int .u64)) (wd p) 0=((mH p 0:Nat):Int):=rfl;have g1:bE (Ty.dflt (.int .u64)) (wd p) 1=((mH p 1:Nat):Int):=rfl;have g2:bE (Ty.dflt (.int .u64)) (wd p) 2=((mH p 2:Nat):Int):=rfl;have g3:bE (Ty.dflt (.int .u64)) (wd p) 3=((mH p 3:Nat):Int):=rfl;rw[dD (by omega),mV];simp only;rw[bD (by rfl),aC (by rfl),g0,a0];simp only[bA];rw[bZ (by omega) (by omega),show IntKind.wrap .i64 ((0:Int)+1)=1 from rfl,dD (by omega),mV];simp only;rw[bD (by rfl),aC (by rfl),g1,a1];simp only[bA];rw[bZ (by omega) (by omega),show IntKind.wrap .i64 ((1:Int)+1)=2 from rfl,dD (by omega),mV];simp only;rw[bD (by rfl),aC (by rfl),g2,a2];simp only[bA];rw[bZ (by omega) (by omega),show IntKind.wrap .i64 ((2:Int)+1)=3 from rfl,dD (by omega),mV];simp only;rw[bD (by rfl),aC (by rfl),g3,a3];simp only[bA];rw[bZ (by omega) (by omega),show IntKind.wrap .i64 ((3:Int)+1)=4 from rfl,dD (by omega),mV];simp only;rw[aS (by rfl)];refine congrArg some ?_;omega
 ·rw[Bool.eq_iff_iff,beq_iff_eq,zNo];omega
end Go.Dec
