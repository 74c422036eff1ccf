/- Part of a proof over this seat: a library of my own, and what it says of this seat. No statement is proved here. -/
import Derived.Test.YthhbdkdofhhoeaaGreatDoorPartAW
import Derived.Test.YthhbdkdofhhoeaaGreatDoorPartAN
namespace Go.Dec
theorem aC{ρ:Type}{b:Bool}(h:b=true)(x:Option ρ):chk b x=x:=by subst h;rfl
theorem bD{ρ:Type}{b:Bool}(h:b=true)(x y:Option ρ):br b x y=x:=by subst h;rfl
theorem aS{ρ:Type}{b:Bool}(h:b=false)(x y:Option ρ):br b x y=y:=by subst h;rfl
@[simp] theorem zRy {α γ ρ:Type}(x:α) (k:α->Option ρ) (k':γ->Option ρ):ob2 (some (.inl x)) k k'=k x:=rfl
@[simp] theorem wN {α γ ρ:Type}(x:γ) (k:α->Option ρ) (k':γ->Option ρ):ob2 (some (.inr x)) k k'=k' x:=rfl
theorem Au{ρ α:Type}(f:α->Option ρ)(x:α):jn f x=f x:=rfl
theorem Gx {ρ α : Type} {B : (α -> Option ρ) -> α -> Option ρ} (st : Nat -> α) {N : Nat} {r : Option ρ}
    (h1 : ∀ i, i < N -> ∀ g, B g (st i) = g (st (i + 1))) (h2 : ∀ g, B g (st N) = r) : ∀ k i n, i + k = N -> k < n -> fix B n (st i) = r := by
  intro k;induction k with
  | zero => intro i n hi hn; rw [dD hn]; have : i = N := by omega
            subst this; exact h2 _
  | succ k ih => intro i n hi hn; rw [dD (by omega), h1 i (by omega)]; exact ih (i + 1) (n - 1) (by omega) (by omega)
theorem zOi {ρ α : Type} {B : (α -> Option ρ) -> α -> Option ρ} (st : Nat -> α) {lo N : Nat} {r : Option ρ}
    (h1 : ∀ i, lo <= i -> i < N -> ∀ g, B g (st i) = g (st (i + 1))) (h2 : ∀ g, B g (st N) = r) : ∀ k i n, i + k = N -> lo <= i -> k < n -> fix B n (st i) = r := by
  intro k;induction k with
  | zero => intro i n hi hl hn; rw [dD hn]; have : i = N := by omega
            subst this; exact h2 _
  | succ k ih => intro i n hi hl hn; rw [dD (by omega), h1 i hl (by omega)]; exact ih (i + 1) (n - 1) (by omega) (by omega) (by omega)
theorem kD{f:Nat->Bool}{n:Nat}(h:(List.range n).all f=true){i:Nat}(hi:i<n):f i=true:=by
 rw[List.all_eq_true]at h;exact h i (by simpa using hi)
def bn:(Nat->Bool)->Nat->Nat | _,0=>0 | f,k+1=>(f 0).toNat+2*bn (fun i=>f (i+1)) k
theorem zRz:∀ (k:Nat) (f:Nat->Bool) (j:Nat),(bn f k).testBit j=(decide (j<k)&&f j)
 |0,f,j=>by simp[bn]
 |k+1,f,j=>by
  unfold bn;cases j with
  |zero=>simp;cases f 0<;>simp<;>omega
  |succ j =>
   rw[Nat.testBit_succ];have h:((f 0).toNat+2*bn (λi=>f (i+1)) k) / 2=bn (λi=>f (i+1)) k:=by cases f 0<;>simp<;>omega
   rw[h,zRz k];simp
theorem zSa:∀ (k:Nat) (f:Nat->Bool),bn f k<2 ^ k
 |0,f=>by simp[bn]
 |k+1,f=>by
  have:=zSa k (λi=>f (i+1));unfold bn;cases f 0<;>simp[Nat.pow_succ]<;>omega
theorem Yz:∀ (k:Nat) {f g:Nat->Bool},(∀ j,j<k->f j=g j)->bn f k=bn g k
 |0,f,g,h=>rfl
 |k+1,f,g,h=>by
  unfold bn;rw[h 0 (by omega),Yz k (λj hj=>h (j+1) (by omega))]
theorem yGa{x k:Nat}{f:Nat->Bool}(hx:x<2 ^ k)(h:∀ j,j<k->x.testBit j=f j):x=bn f k:=by
 apply Nat.eq_of_testBit_eq;intro j;rw[zRz];by_cases hj:j<k
 ·simp[hj,h j hj]
 ·simp only[hj,decide_false,Bool.false_and];exact Nat.testBit_lt_two_pow (Nat.lt_of_lt_of_le hx (Nat.pow_le_pow_right (by omega) (by omega)))
def mH (p:Nat->Bool) (k:Nat):Nat:=bn (fun j=>p (64*k+j)) 64
def word (p:Nat->Bool) (k:Nat):Int:=(mH p k:Nat)
def wd (p:Nat->Bool):List Int:=[word p 0,word p 1,word p 2,word p 3]
def bx (p:Nat->Bool):List Bool:=(List.range 256).map p
theorem jP(p:Nat->Bool)(k:Nat):mH p k<2 ^ 64:=zSa _ _
theorem uD(p:Nat->Bool)(k j:Nat):(mH p k).testBit j=(decide (j<64)&&p (64*k+j)):=zRz _ _ _
theorem Nq{x k:Nat}{p:Nat->Bool}(hx:x<2 ^ 64)(h:∀ j,j<64->x.testBit j=p (64*k+j)):x=mH p k:=yGa hx h
theorem zK{p q:Nat->Bool}{k:Nat}(h:∀ i,64*k<=i->i<64*k+64->p i=q i):word p k=word q k:=by
 unfold word mH;rw[Yz 64 (λj hj=>h (64*k+j) (by omega) (by omega))]
theorem uE{p q:Nat->Bool}(h:∀ i,i<256->p i=q i):wd p=wd q:=by
 unfold wd;rw[zK (λi _ _=>h i (by omega)),zK (k:=1) (λi _ _=>h i (by omega)),zK (k:=2) (λi _ _=>h i (by omega)),zK (k:=3) (λi _ _=>h i (by omega))]
theorem lT{p q:Nat->Bool}(h:∀ i,i<256->p i=q i):bx p=bx q:=by
 unfold bx;apply List.map_congr_left;intro i hi;exact h i (by simpa using hi)
theorem word_inj{p q:Nat->Bool}{k:Nat}(h:word p k=word q k){i:Nat}(h1:64*k<=i)(h2:i<64*k+64):p i=q i:=by
 have h:mH p k=mH q k:=by unfold word at h;omega
 have:=congrArg (λx=>x.testBit (i-64*k)) h;simp only[uD]at this;rw[show 64*k+(i-64*k)=i by omega]at this;have h3:i-64*k<64:=by omega
 simpa [h3]using this
theorem yEf{p q:Nat->Bool}(h:wd p=wd q){i:Nat}(hi:i<256):p i=q i:=by
 simp only[wd,aK,and_true]at h;obtain⟨h0,h1,h2,h3⟩:=h;by_cases a:i<64
 ·exact word_inj h0 (by omega) (by omega)
 ·by_cases b:i<128
  ·exact word_inj h1 (by omega) (by omega)
  ·by_cases c:i<192
   ·exact word_inj h2 (by omega) (by omega)
   ·exact word_inj h3 (by omega) (by omega)
theorem Lh{p:Nat->Bool}{i:Nat}(d:Bool)(hi:i<256):(bx p).getD i d=p i:=by
 simp[bx,List.getD_eq_getElem?_getD,hi]
theorem Gy{p:Nat->Bool}{i:Nat}(b:Bool):(bx p).set i b=bx (λj=>if j=i then b else p j):=by
 apply List.ext_getElem?;intro j;by_cases hj:j<256
 ·simp only[bx,List.getElem?_set,List.length_map,List.length_range,List.getElem?_map];by_cases e:i=j
  ·subst e;simp[hj]
  ·simp[e,Ne.symm e,hj]
 ·simp only[bx,List.getElem?_set,List.length_map,List.length_range,List.getElem?_map];simp[hj];omega
theorem qE:wd (λ_=>false)=[0,0,0,0]:=by decide +kernel
theorem Li:bx (λ_=>false)=List.replicate 256 false:=by decide +kernel
theorem wrapN{x:Nat}(h:x<2 ^ 64):IntKind.u64.wrap ((x:Nat):Int)=x:=IntWalk.u64_in _ (by omega)
theorem bvN{x:Nat}(h:x<2 ^ 64):(BitVec.ofInt 64 ((x:Nat):Int)).toNat=x:=by
 rw[BitVec.toNat_ofInt];omega
theorem ior{a b:Nat}(ha:a<2 ^ 64)(hb:b<2 ^ 64):cK .u64 .or (a:Int) (b:Int)=((a ||| b:Nat):Int):=by
 show IntKind.u64.wrap ((BitVec.ofInt 64 (a:Int) ||| BitVec.ofInt 64 (b:Int)).toNat:Int)=_;rw[BitVec.toNat_or,bvN ha,bvN hb];exact wrapN (Nat.or_lt_two_pow ha hb)
theorem yHw{a b:Nat}(ha:a<2 ^ 64)(hb:b<2 ^ 64):cK .u64 .xor (a:Int) (b:Int)=((a ^^^ b:Nat):Int):=by
 show IntKind.u64.wrap ((BitVec.ofInt 64 (a:Int) ^^^ BitVec.ofInt 64 (b:Int)).toNat:Int)=_;rw[BitVec.toNat_xor,bvN ha,bvN hb];exact wrapN (Nat.xor_lt_two_pow ha hb)
theorem zSb{a b:Nat}(ha:a<2 ^ 64)(hb:b<2 ^ 64):cK .u64 .and (a:Int) (b:Int)=((a &&& b:Nat):Int):=by
 show IntKind.u64.wrap ((BitVec.ofInt 64 (a:Int) &&& BitVec.ofInt 64 (b:Int)).toNat:Int)=_;rw[BitVec.toNat_and,bvN ha,bvN hb];exact wrapN (Nat.and_lt_two_pow _ hb)
theorem yBj(p q:Nat->Bool)(k:Nat):cK .u64 .or (word p k) (word q k)=word (λi=>p i||q i) k:=by
 unfold word;rw[ior (jP _ _) (jP _ _),Nq (p:=λi=>p i||q i) (Nat.or_lt_two_pow (jP p k) (jP q k))];intro j hj;simp[uD,hj]
theorem yBk(j:Nat):(18446744073709551615:Nat).testBit j=decide (j<64):=by
 have:=Nat.testBit_two_pow_sub_one 64 j;simpa using this
theorem zYl(p:Nat->Bool)(k:Nat):cK .u64 .xor 18446744073709551615 (word p k)=word (λi=>!p i) k:=by
 unfold word;rw[show(18446744073709551615:Int)=((18446744073709551615:Nat):Int)from rfl];rw[yHw (by omega) (jP _ _),Nq (p:=λi=>!p i) (Nat.xor_lt_two_pow (by omega) (jP p k))];intro j hj;simp[Nat.testBit_xor,yBk,uD,hj]
theorem zUs(p:Nat->Bool){i:Nat}(hi:i<256):(wd p).set (i / 64) (cK .u64 .or ((wd p).getD (i / 64) 0) (((2 ^ (i % 64):Nat)):Int))=wd (λj=>p j||decide (j=i)):=by
 have hb:2 ^ (i % 64)<2 ^ 64:=Nat.pow_lt_pow_right (by omega) (by omega);have hw:∀ k,k=i / 64->cK .u64 .or (word p k) (((2 ^ (i % 64):Nat)):Int)=word (λj=>p j||decide (j=i)) k:=by
  intro k hk;unfold word;rw[ior (jP _ _) hb,Nq (p:=λj=>p j||decide (j=i)) (Nat.or_lt_two_pow (jP p k) hb)];intro j hj;simp only[Nat.testBit_or,uD,Nat.testBit_two_pow,hj,decide_true,Bool.true_and];congr 1;apply decide_eq_decide.2;omega
 have ho:∀ k,k≠i / 64->word p k=word (λj=>p j||decide (j=i)) k:=by
  intro k hk;apply zK;intro j h1 h2;have:j≠i:=by omega
  simp[this]
 have hk:i / 64=0\/i / 64=1\/i / 64=2\/i / 64=3:=by omega
 rcases hk with h|h|h|h<;>rw[h]<;>simp only[wd,List.getD_cons_zero,List.getD_cons_succ,List.set_cons_zero,List.set_cons_succ]
 ·rw[hw 0 h.symm,ho 1 (by omega),ho 2 (by omega),ho 3 (by omega)]
 ·rw[hw 1 h.symm,ho 0 (by omega),ho 2 (by omega),ho 3 (by omega)]
 ·rw[hw 2 h.symm,ho 0 (by omega),ho 1 (by omega),ho 3 (by omega)]
 ·rw[hw 3 h.symm,ho 0 (by omega),ho 1 (by omega),ho 2 (by omega)]
theorem zUt:((List.range 256).all λi=>decide (gT .i64 (i:Int) 6=((i / 64:Nat):Int))&&decide (Pp .u64 1 (cK .i64 .and (i:Int) 63)=((2 ^ (i % 64):Nat):Int))&&decide (0<=cK .i64 .and (i:Int) 63)
 && decide (gT .u8 (i:Int) 6=((i / 64:Nat):Int))&&decide (Pp .u64 1 (cK .u8 .and (i:Int) 63)=((2 ^ (i % 64):Nat):Int))&&decide (0<=cK .u8 .and (i:Int) 63))=true:=by decide +kernel
theorem yHx{i:Nat}(hi:i<256):gT .i64 (i:Int) 6=((i / 64:Nat):Int)/\Pp .u64 1 (cK .i64 .and (i:Int) 63)=((2 ^ (i % 64):Nat):Int)/\0<=cK .i64 .and (i:Int) 63:=by
 have:=kD zUt hi;simp only[aF,decide_eq_true_eq]at this;exact⟨this.1.1.1.1.1,this.1.1.1.1.2,this.1.1.1.2⟩
theorem yEg{i:Nat}(hi:i<256):gT .u8 (i:Int) 6=((i / 64:Nat):Int)/\Pp .u64 1 (cK .u8 .and (i:Int) 63)=((2 ^ (i % 64):Nat):Int)/\0<=cK .u8 .and (i:Int) 63:=by
 have:=kD zUt hi;simp only[aF,decide_eq_true_eq]at this;exact⟨this.1.1.2,this.1.2,this.2⟩
theorem Za:Ty.dflt (.int .u64)=(0:Int):=rfl
def bC (a b:Nat):Nat->Bool:=fun i=>decide (a<=i)&&decide (i<=b)
theorem zOj{p q:Nat->Bool}(h:∀ i,i<256->p i=q i):some (wd p)=some (wd q):=by rw[uE h]
theorem Va{p q:Nat->Bool}(h:∀ i,i<256->p i=q i):some (bx p)=some (bx q):=by rw[lT h]
theorem zL{n a b:Nat}(hn:300<=n)(ha:a<256)(hb:b<256):dH n ((a:Int),(b:Int))=some (wd (bC a b)):=by
 unfold dH;simp only;rw[bZ (by omega) (by omega)];by_cases hab:a<=b
 ·have:=zOi (lo:=a) (B:=oF n) (r:=some (wd (bC a b))) (N:=b+1) (λi=>((b:Int),(i:Int),wd (λj=>decide (a<=j)&&decide (j<i)),()))
   (by
    intro i hlo hi g;have hi2:i<256:=by omega
    obtain⟨s1,s2,s3⟩:=yHx hi2;rw[oF];simp only;have hc:i<=b:=by omega
    rw[bZ (by omega) (by omega),s1,s2];rw[bD (by simp;omega),aC (by decide),aC (gW (by omega) (by omega)),aC (by simp;omega),aC (by simpa using s3),aC (gW (by omega) (by omega)),aC (by simp;omega)];rw[bZ (by omega) (by omega),Za,Int.toNat_natCast,zUs _ hi2];have:wd (λj=>(decide (a<=j)&&decide (j<i))||decide (j=i))=wd (λj=>decide (a<=j)&&decide (j<i+1)):=by
     refine uE λj hj=>?_
     rw[Bool.eq_iff_iff];simp;omega
    rw[this];rfl)
   (by
    intro g;rw[oF];simp only;rw[aS (by rw[bZ (by omega) (by omega)];simp;omega)];refine zOj λi hi=>?_
    simp only[bC];rw[Bool.eq_iff_iff];simp;omega)
   (b+1-a) a n (by omega) (by omega) (by omega)
  have e:wd (λj=>decide (a<=j)&&decide (j<a))=[0,0,0,0]:=by
   rw[<- qE];refine uE λj hj=>?_
   rw[Bool.eq_iff_iff];simp
  simp only[e]at this;exact this
 ·rw[dD (by omega),oF];simp only;rw[aS (by rw[bZ (by omega) (by omega)];simp;omega),<- qE];refine zOj λj hj=>?_
  simp only[bC];rw[Bool.eq_iff_iff];simp;omega
theorem zCd{n:Nat}(hn:5<=n)(p:Nat->Bool):Ey n (wd p)=some (wd λi=>!p i):=by
 obtain⟨m,rfl⟩:∃ m,n=m+5:=⟨n-5,by omega⟩;have h:=zYl p;have e:wd (λi=>!p i)=[cK .u64 .xor 18446744073709551615 (word p 0),cK .u64 .xor 18446744073709551615 (word p 1),cK .u64 .xor 18446744073709551615 (word p 2),cK .u64 .xor 18446744073709551615 (word p 3)]:=by rw[h,h,h,h];rfl
 rw[e];rfl
theorem zSc{n:Nat}(hn:5<=n)(g0:List (List Int) × Int × Int × List Int × Unit->Option (List Int))(l:List (List Int))(c i:Int)(p q:Nat->Bool):fix (Rb n g0) n (l,c,i,0,wd p,wd q,())=g0 (l,c,IntKind.wrap .i64 (i+1),wd (λi=>p i||q i),()):=by
 obtain⟨m,rfl⟩:∃ m,n=m+5:=⟨n-5,by omega⟩;have h:=yBj p q;have e:wd (λi=>p i||q i)=[cK .u64 .or (word p 0) (word q 0),cK .u64 .or (word p 1) (word q 1),cK .u64 .or (word p 2) (word q 2),cK .u64 .or (word p 3) (word q 3)]:=by rw[h,h,h,h];rfl
 rw[e];rfl
theorem zFq{n:Nat}(ps:List (Nat->Bool))(hn:5<=n)(hl:ps.length<n)(hm:ps.length<1000):nG n (ps.map wd)=some (wd λi=>ps.any (· i)):=by
 unfold nG;simp only[List.length_map];have:=Gx (B:=yN n) (r:=some (wd λi=>ps.any (· i))) (N:=ps.length) (λi=>(ps.map wd,(ps.length:Int),(i:Int),wd (λj=>(ps.take i).any (· j)),()))
  (by
   intro i hi g;rw[yN];simp only;rw[bD (by simp;omega),aC (gW (by omega) (by simp;omega))];have hg:bE (Ty.dflt (.arr 4 (.int .u64))) (ps.map wd) (i:Int)=wd ps[i]:=by
    simp[bE,List.getD_eq_getElem?_getD,hi]
   rw[hg,zSc hn,bZ (by omega) (by omega)];have hw:wd (λj=>(ps.take i).any (· j)||ps[i] j)=wd (λj=>(ps.take (i+1)).any (· j)):=by
    refine uE λj hj=>?_
    rw[List.take_succ_eq_append_getElem hi,List.any_append];simp
   rw[hw];rfl)
  (by
   intro g;rw[yN];simp only;rw[aS (by simp)];simp)
  ps.length 0 n (by omega) hl
 simpa [qE]using this
def ofP (s:List UInt8):Nat->Bool:=fun i=>s.any fun c=>decide (c.toNat = i)
theorem qI{α:Type}{d:α}{s:List α}{i:Nat}(h:i<s.length):bE d s (i:Int)=s[i]:=by
 simp[bE,List.getD_eq_getElem?_getD,h]
theorem zLc{s:List UInt8}{i:Nat}(h:i<s.length):ofP (s.take (i+1))=λj=>ofP (s.take i) j||decide (j=s[i].toNat):=by
 funext j;simp only[ofP];rw[List.take_succ_eq_append_getElem h,List.any_append];simp[eq_comm]
theorem Sv{n:Nat}(s:List UInt8)(hl:s.length<n)(hm:s.length<100000):rO n s=some (wd (ofP s)):=by
 unfold rO;simp only;have:=Gx (B:=yO n) (r:=some (wd (ofP s))) (N:=s.length) (λi=>(s,(s.length:Int),(i:Int),wd (ofP (s.take i)),()))
  (by
   intro i hi g;have hc:s[i].toNat<256:=s[i].toNat_lt;obtain⟨s1,s2,s3⟩:=yEg hc;rw[yO];simp only;rw[qI hi,s1,s2];rw[bD (by simp;omega),aC (qR hi),aC (by decide),aC (gW (by omega) (by omega)),aC (by simp;omega),aC (qR hi),aC (by simpa using s3),aC (gW (by omega) (by omega)),aC (by simp;omega)];rw[bZ (by omega) (by omega),Za,Int.toNat_natCast,zUs _ hc,zLc hi];rfl)
  (by
   intro g;rw[yO];simp only;rw[aS (by simp)];simp)
  s.length 0 n (by omega) hl
 have e:wd (ofP (s.take 0))=[0,0,0,0]:=by rw[<- qE];rfl
 simp only[e]at this;simpa using this
theorem zDy{n a b:Nat}(hn:300<=n)(ha:a<256)(hb:b<256):fO n ((a:Int),(b:Int))=some (bx (bC a b)):=by
 unfold fO;simp only;rw[bZ (by omega) (by omega)];by_cases hab:a<=b
 ·have:=zOi (lo:=a) (B:=lV n) (r:=some (bx (bC a b))) (N:=b+1) (λi=>((b:Int),(i:Int),List.replicate 256 false,bx (λj=>decide (a<=j)&&decide (j<i)),()))
   (by
    intro i hlo hi g;have hi2:i<256:=by omega
    rw[lV];simp only;have hc:i<=b:=by omega
    rw[bZ (by omega) (by omega)];rw[bD (by simp;omega),aC (gW (by omega) (by omega)),aC (by simp;omega)];rw[bZ (by omega) (by omega),Int.toNat_natCast,Gy];have:bx (λj=>if j=i then true else(decide (a<=j)&&decide (j<i)))=bx (λj=>decide (a<=j)&&decide (j<i+1)):=by
     refine lT λj hj=>?_
     rw[Bool.eq_iff_iff];split<;>simp<;>omega
    rw[this];rfl)
   (by
    intro g;rw[lV];simp only;rw[aS (by rw[bZ (by omega) (by omega)];simp;omega)];refine Va λi hi=>?_
    simp only[bC];rw[Bool.eq_iff_iff];simp;omega)
   (b+1-a) a n (by omega) (by omega) (by omega)
  have e:bx (λj=>decide (a<=j)&&decide (j<a))=List.replicate 256 false:=by
   rw[<- Li];refine lT λj hj=>?_
   rw[Bool.eq_iff_iff];simp
  simp only[e]at this;exact this
 ·rw[dD (by omega),lV];simp only;rw[aS (by rw[bZ (by omega) (by omega)];simp;omega),<- Li];refine Va λj hj=>?_
  simp only[bC];rw[Bool.eq_iff_iff];simp;omega
theorem zNi{n:Nat}(hn:300<=n)(p q:Nat->Bool):qU n (bx p,bx q)=some (bx λi=>p i||q i):=by
 unfold qU;simp only;have:=Gx (B:=uN n) (r:=some (bx λi=>p i||q i)) (N:=256) (λi=>((i:Int),bx (λj=>if j<i then p j||q j else p j),bx q,List.replicate 256 false,()))
  (by
   intro i hi g;have key:∀ b,b=(p i||q i)->(g (((i+1:Nat):Int),bx (λj=>if j=i then b else if j<i then p j||q j else p j),bx q,List.replicate 256 false,())=g (((i+1:Nat):Int),bx (λj=>if j<i+1 then p j||q j else p j),bx q,List.replicate 256 false,())):=by
    intro b hb;have:bx (λj=>if j=i then b else if j<i then p j||q j else p j)=bx (λj=>if j<i+1 then p j||q j else p j):=by
     refine lT λj hj=>?_
     by_cases e:j=i
     ·subst e;simp[hb]
     ·by_cases e2:j<i
      ·simp[e,e2,Nat.lt_succ_of_lt e2]
      ·simp[e,e2,show ¬ j<i+1 by omega]
    rw[this]
   rw[uN];simp only;rw[bD (by simp;omega),aC (gW (by omega) (by omega)),aC (by simp;omega),aC (gW (by omega) (by omega)),aC (by simp;omega)];rw[bZ (by omega) (by omega),Int.toNat_natCast,Lh _ hi,Lh _ hi,Gy,Gy,show(i:Int)+1=((i+1:Nat):Int)from rfl];simp only[Nat.lt_irrefl,if_false];cases hp:p i
   ·rw[aS rfl,aC (gW (by omega) (by omega)),aC (decide_eq_true hi),aC (gW (by omega) (by omega)),aC (decide_eq_true hi)];rw[key (q i) (by rw[hp];rfl)]
   ·rw[bD rfl];exact key true (by rw[hp];rfl))
  (by
   intro g;rw[uN];simp only;rw[aS (by simp)];refine Va λi hi=>?_
   simp[hi])
  256 0 n (by omega) (by omega)
 have e:bx (λj=>if j<0 then p j||q j else p j)=bx p:=lT λj hj=>by simp
 rw[e]at this;exact this
theorem zNj{n:Nat}(s:List UInt8)(hl:s.length<n)(hm:s.length<100000):Gj n s=some (bx (ofP s)):=by
 unfold Gj;simp only;have:=Gx (B:=uO n) (r:=some (bx (ofP s))) (N:=s.length) (λi=>(s,(i:Int),List.replicate 256 false,bx (ofP (s.take i)),()))
  (by
   intro i hi g;have hc:s[i].toNat<256:=s[i].toNat_lt;rw[uO];simp only;rw[qI hi];rw[bD (by simp;omega),aC (qR hi),aC (gW (by omega) (by omega)),aC (by simp;omega)];rw[bZ (by omega) (by omega),Int.toNat_natCast,Gy,zLc hi];have:bx (λj=>if j=s[i].toNat then true else ofP (s.take i) j)=bx (λj=>ofP (s.take i) j||decide (j=s[i].toNat)):=by
    refine lT λj hj=>?_
    by_cases e:j=s[i].toNat
    ·rw[if_pos e];simp[e]
    ·rw[if_neg e];simp[e]
   rw[this];rfl)
  (by
   intro g;rw[uO];simp only;rw[aS (by simp)];simp)
  s.length 0 n (by omega) hl
 have e:bx (ofP (s.take 0))=List.replicate 256 false:=by rw[<- Li];rfl
 simp only[e]at this;exact this
def aT (p:Nat->Bool):List UInt8:=((List.range 256).filter p).map UInt8.ofNat
theorem Av{n:Nat}(hn:300<=n)(p:Nat->Bool):kS n (bx p)=some (aT p):=by
 unfold kS;simp only;have:=Gx (B:=pI n) (r:=some (aT p)) (N:=256) (λi=>((i:Int),bx p,((List.range i).filter p).map (λj=>((j:Nat):Int)),()))
  (by
   intro i hi g;have hle:((List.range i).filter p).length<=i:=by have:=List.length_filter_le p (List.range i);simpa using this
   rw[pI];simp only;rw[bD (by simp;omega),aC (gW (by omega) (by omega)),aC (by simp;omega)];rw[bZ (by omega) (by omega),Int.toNat_natCast,Lh _ hi,show(i:Int)+1=((i+1:Nat):Int)from rfl,IntWalk.u8_in _ (by omega),List.range_succ];cases hp:p i
   ·rw[aS rfl];simp[hp]
   ·rw[bD rfl,aC (by simp[room];omega)];simp[hp])
  (by
   intro g;rw[pI];simp only;rw[aS (by simp)];simp[dZ,aT])
  256 0 n (by omega) (by omega)
 exact this
theorem zSd(p:Nat->Bool):(aT p).length<=256:=by
 have:=List.length_filter_le p (List.range 256);simpa [aT]using this
theorem zGu{n:Nat}(hn:300<=n)(p:Nat->Bool):yS n (bx p)=some ((aT p).length:Int):=by
 unfold yS;simp only;rw[Av hn];rfl
theorem yEh{p:Nat->Bool}:wd p=[0,0,0,0]<->∀ i,i<256->p i=false:=by
 rw[<- qE];exact⟨λh i hi=>yEf h hi,λh=>uE h⟩
theorem yHy{p q:Nat->Bool}:Ty.beq (.arr 4 (.int .u64)) (wd p) (wd q)=true<->wd p=wd q:=beq_iff rfl
def vN (p:Nat->Bool) (i k:Nat):Nat:=bn (fun j=>p (max i (64*k)+j)) (64*(k+1)-max i (64*k))
def vW (p:Nat->Bool) (i:Nat):List Int:=[((vN p i 0:Nat):Int),((vN p i 1:Nat):Int),((vN p i 2:Nat):Int),((vN p i 3:Nat):Int)]
theorem yGb(p:Nat->Bool)(i k:Nat):vN p i k<2 ^ 64:=by
 unfold vN;exact Nat.lt_of_lt_of_le (zSa _ _) (Nat.pow_le_pow_right (by omega) (by omega))
theorem yBl(p:Nat->Bool){i k:Nat}(h:i / 64=k):vN p i k=(p i).toNat+2*vN p (i+1) k:=by
 unfold vN;have h1:max i (64*k)=i:=by omega
 have h2:max (i+1) (64*k)=i+1:=by omega
 rw[h1,h2,show 64*(k+1)-i=(64*(k+1)-(i+1))+1 by omega];rw[bn];congr 2;apply Yz;intro j hj;show p (i+(j+1))=p (i+1+j);congr 1;omega
theorem zYm(p:Nat->Bool){i k:Nat}(h:i / 64≠k):vN p (i+1) k=vN p i k:=by
 unfold vN;by_cases h1:i<64*k
 ·have h1':max i (64*k)=64*k:=by omega
  have h2:max (i+1) (64*k)=64*k:=by omega
  rw[h1',h2]
 ·have h3:64*(k+1)-max i (64*k)=0:=by omega
  have h4:64*(k+1)-max (i+1) (64*k)=0:=by omega
  rw[h3,h4];rfl
theorem yBm(p:Nat->Bool):vW p 0=wd p:=by
 unfold vW wd word mH vN;simp[show ∀ k,max 0 (64*k)=64*k by omega]
theorem yBn(p:Nat->Bool){i:Nat}(hi:i<256):(vW p i).set (i / 64) ((vN p (i+1) (i / 64):Nat):Int)=vW p (i+1):=by
 have hk:i / 64=0\/i / 64=1\/i / 64=2\/i / 64=3:=by omega
 have ho:∀ k,i / 64≠k->vN p (i+1) k=vN p i k:=λk h=>zYm p h
 rcases hk with h|h|h|h<;>rw[h]<;>simp only[vW,List.set_cons_zero,List.set_cons_succ]
 ·rw[ho 1 (by omega),ho 2 (by omega),ho 3 (by omega)]
 ·rw[ho 0 (by omega),ho 2 (by omega),ho 3 (by omega)]
 ·rw[ho 0 (by omega),ho 1 (by omega),ho 3 (by omega)]
 ·rw[ho 0 (by omega),ho 1 (by omega),ho 2 (by omega)]
theorem yEi(p:Nat->Bool){i k:Nat}(hk:k<4):(vW p i).getD k 0=((vN p i k:Nat):Int):=by
 have:k=0\/k=1\/k=2\/k=3:=by omega
 rcases this with rfl|rfl|rfl|rfl<;>rfl
theorem zGv{n:Nat}(hn:300<=n)(p:Nat->Bool):yT n (wd p)=some (bx p):=by
 unfold yT;simp only;have:=Gx (B:=qV n) (r:=some (bx p)) (N:=256) (λi=>((i:Int),vW p i,List.replicate 256 false,bx (λj=>decide (j<i)&&p j),()))
  (by
   intro i hi g;have hk:i / 64<4:=by omega
   have hv:IntKind.wrap .i64 (Int.tdiv (i:Int) 64)=((i / 64:Nat):Int):=by
    rw[IntWalk.i64_quo _ _ (by omega)];rfl
   have hs:=yBl p (i:=i) rfl;have hlt:=yGb p i (i / 64);rw[qV];simp only;rw[hv,Int.toNat_natCast,Int.toNat_natCast,Za,yEi p hk,Gy];have e1:IntKind.wrap .u64 (Int.tdiv ((vN p i (i / 64):Nat):Int) 2)=((vN p (i+1) (i / 64):Nat):Int):=by
    rw[IntWalk.u64_quo _ _ (by omega)];cases hp:p i<;>rw[hp]at hs<;>simp at hs<;>omega
   have e2:(Int.tmod ((vN p i (i / 64):Nat):Int) 2==1)=p i:=by
    rw[Int.tmod_eq_emod_of_nonneg (by omega)];cases hp:p i<;>rw[hp]at hs<;>simp at hs<;>simp<;>omega
   rw[e1,e2,yBn p hi];rw[bD (by simp;omega),aC (by decide),aC (gW (by omega) (by omega)),aC (by simp;omega),aC (by decide),aC (gW (by omega) (by omega)),aC (by simp;omega),aC (by decide),aC (by decide),aC (gW (by omega) (by omega)),aC (by simp;omega),aC (by decide),aC (gW (by omega) (by omega)),aC (by simp;omega)];rw[bZ (by omega) (by omega)];have:bx (λj=>if j=i then p i else decide (j<i)&&p j)=bx (λj=>decide (j<i+1)&&p j):=by
    refine lT λj hj=>?_
    by_cases e:j=i
    ·subst e;simp
    ·rw[if_neg e];congr 1;apply decide_eq_decide.2;omega
   rw[this];rfl)
  (by
   intro g;rw[qV];simp only;rw[aS (by simp)];refine Va λi hi=>?_
   simp[hi])
  256 0 n (by omega) (by omega)
 have e:bx (λj=>decide (j<0)&&p j)=List.replicate 256 false:=by rw[<- Li];exact lT λj hj=>by simp
 rw[e,yBm]at this;exact this
theorem zCe{n:Nat}(hn:300<=n)(p q:Nat->Bool):fix (lW n) n (0,List.replicate 256 false,bx p,bx q,())=some (bx (λi=>q i&&!p i),true):=by
 have:=Gx (B:=lW n) (r:=some (bx (λi=>q i&&!p i),true)) (N:=256) (λi=>((i:Int),List.replicate 256 false,bx p,bx (λj=>if j<i then q j&&!p j else q j),()))
  (by
   intro i hi g;have key:∀ b,b=(q i&&!p i)->(g (((i+1:Nat):Int),List.replicate 256 false,bx p,bx (λj=>if j=i then b else if j<i then q j&&!p j else q j),())=g (((i+1:Nat):Int),List.replicate 256 false,bx p,bx (λj=>if j<i+1 then q j&&!p j else q j),())):=by
    intro b hb;have:bx (λj=>if j=i then b else if j<i then q j&&!p j else q j)=bx (λj=>if j<i+1 then q j&&!p j else q j):=by
     refine lT λj hj=>?_
     by_cases e:j=i
     ·subst e;simp[hb]
     ·by_cases e2:j<i
      ·simp[e,e2,Nat.lt_succ_of_lt e2]
      ·simp[e,e2,show ¬ j<i+1 by omega]
    rw[this]
   rw[lW];simp only;rw[bD (by simp;omega),aC (gW (by omega) (by omega)),aC (by simp;omega)];rw[bZ (by omega) (by omega),Int.toNat_natCast,Lh _ hi,Lh _ hi,Gy,Gy,show(i:Int)+1=((i+1:Nat):Int)from rfl];simp only[Nat.lt_irrefl,if_false];cases hq:q i
   ·rw[aS rfl,aC (gW (by omega) (by omega)),aC (decide_eq_true hi)];exact key false (by rw[hq];rfl)
   ·rw[bD rfl,aC (gW (by omega) (by omega)),aC (decide_eq_true hi),aC (gW (by omega) (by omega)),aC (decide_eq_true hi)];exact key (!p i) (by rw[hq];rfl))
  (by
   intro g;rw[lW];simp only;rw[aS (by simp)];have e:bx (λj=>if j<256 then q j&&!p j else q j)=bx (λi=>q i&&!p i):=lT λj hj=>by simp[hj]
   rw[e])
  256 0 n (by omega) (by omega)
 have e:bx (λj=>if j<0 then q j&&!p j else q j)=bx q:=lT λj hj=>by simp
 rw[e]at this;exact this
def zLd (ps:List (Nat->Bool)):Nat->Bool:=fun i=>ps.any (· i)
def Lj (s:List UInt8):Option (Nat->Bool) :=bif s==[117,112,112,101,114] then some (bC 65 90) else bif s==[108,111,119,101,114] then some (bC 97 122) else bif s==[97,108,112,104,97] then some (zLd [bC 65 90,bC 97 122]) else bif s==[100,105,103,105,116] then some (bC 48 57) else bif s==[97,108,110,117,109] then some (zLd [bC 65 90,bC 97 122,bC 48 57]) else bif s==[120,100,105,103,105,116] then some (zLd [bC 48 57,bC 65 70,bC 97 102]) else bif s==[98,108,97,110,107] then some (ofP [32,9]) else bif s==[115,112,97,99,101] then some (ofP [32,9,10,11,12,13]) else bif s==[99,110,116,114,108] then some (zLd [bC 0 31,ofP [127]]) else bif s==[103,114,97,112,104] then some (bC 33 126) else bif s==[112,114,105,110,116] then some (bC 32 126) else bif s==[112,117,110,99,116] then some (zLd [bC 33 47,bC 58 64,bC 91 96,bC 123 126]) else none
def zOk(o:Option (Nat->Bool))(a:Option (List Int × Bool))(b:Option (List Bool × Bool)):Prop:=match o with
 |some p=>a=some (wd p,true)/\b=some (bx p,true)
 |none=>a=some (wd λ_=>false,false)/\∃ p,b=some (bx p,false)
theorem iW{p q:Nat->Bool}(h:((List.range 256).all λi=>p i==q i)=true)(o:Option (List Int × Bool))(o2:Option (List Bool × Bool))(h1:o=some (wd p,true))(h2:o2=some (bx q,true)):zOk (some p) o o2:=by
 refine⟨h1,?_⟩;rw[h2];have:bx q=bx p:=lT λi hi=>by have:=kD h hi;simp at this;exact this.symm
 rw[this]
theorem zSe{n:Nat}(hn:300<=n)(s:List UInt8):zOk (Lj s) (Cn n s) (Wi n s):=by
 have R:∀ a b:Nat,a<256->b<256->dH n ((a:Int),(b:Int))=some (wd (bC a b)):=λa b ha hb=>zL hn ha hb
 have R2:∀ a b:Nat,a<256->b<256->fO n ((a:Int),(b:Int))=some (bx (bC a b)):=λa b ha hb=>zDy hn ha hb
 have O:∀ ps:List (Nat->Bool),ps.length<10->nG n (ps.map wd)=some (wd λi=>ps.any (· i)):=λps h=>zFq ps (by omega) (by omega) (by omega)
 have O2:=λp q=>zNi hn p q
 have F:∀ s:List UInt8,s.length<10->rO n s=some (wd (ofP s)):=λs h=>Sv s (by omega) (by omega)
 have F2:∀ s:List UInt8,s.length<10->Gj n s=some (bx (ofP s)):=λs h=>zNj s (by omega) (by omega)
 unfold Cn Wi Lj;simp only;rw[show((65:Int),(90:Int))=(((65:Nat):Int),((90:Nat):Int))from rfl,show((97:Int),(122:Int))=(((97:Nat):Int),((122:Nat):Int))from rfl,show((48:Int),(57:Int))=(((48:Nat):Int),((57:Nat):Int))from rfl];rw[R 65 90 (by omega) (by omega),R 97 122 (by omega) (by omega),R 48 57 (by omega) (by omega),R2 65 90 (by omega) (by omega),R2 97 122 (by omega) (by omega),R2 48 57 (by omega) (by omega)];simp only[bA];rw[O2];simp only[bA];rw[O2];simp only[bA];cases s==[117,112,112,101,114]
 case true=>exact iW (by decide +kernel) _ _ rfl rfl
 simp only[bR,cond_false];cases s==[108,111,119,101,114]
 case true=>exact iW (by decide +kernel) _ _ rfl rfl
 simp only[bR,cond_false];cases s==[97,108,112,104,97]
 case true =>
  have:=O [bC 65 90,bC 97 122] (by decide);simp only[List.map]at this;simp only[dK,this,bA];exact iW (by decide +kernel) _ _ rfl rfl
 simp only[bR,cond_false];cases s==[100,105,103,105,116]
 case true=>exact iW (by decide +kernel) _ _ rfl rfl
 simp only[bR,cond_false];cases s==[97,108,110,117,109]
 case true =>
  have:=O [bC 65 90,bC 97 122,bC 48 57] (by decide);simp only[List.map]at this;simp only[dK,this,bA];exact iW (by decide +kernel) _ _ rfl rfl
 simp only[bR,cond_false];cases s==[120,100,105,103,105,116]
 case true =>
  have:=O [bC 48 57,bC 65 70,bC 97 102] (by decide);simp only[List.map]at this;simp only[dK];rw[show((65:Int),(70:Int))=(((65:Nat):Int),((70:Nat):Int))from rfl,show((97:Int),(102:Int))=(((97:Nat):Int),((102:Nat):Int))from rfl];rw[R 65 70 (by omega) (by omega),R 97 102 (by omega) (by omega),R2 65 70 (by omega) (by omega),R2 97 102 (by omega) (by omega)];simp only[bA];rw[O2,this];simp only[bA];rw[O2];exact iW (by decide +kernel) _ _ rfl rfl
 simp only[bR,cond_false];cases s==[98,108,97,110,107]
 case true =>
  simp only[dK];rw[F _ (by decide),F2 _ (by decide)];exact iW (by decide +kernel) _ _ rfl rfl
 simp only[bR,cond_false];cases s==[115,112,97,99,101]
 case true =>
  simp only[dK];rw[show((9:Int),(13:Int))=(((9:Nat):Int),((13:Nat):Int))from rfl];rw[F _ (by decide),F2 _ (by decide),R2 9 13 (by omega) (by omega)];simp only[bA];rw[O2];exact iW (by decide +kernel) _ _ rfl rfl
 simp only[bR,cond_false];cases s==[99,110,116,114,108]
 case true =>
  simp only[dK];rw[show((0:Int),(31:Int))=(((0:Nat):Int),((31:Nat):Int))from rfl,show((127:Int),(127:Int))=(((127:Nat):Int),((127:Nat):Int))from rfl];rw[R 0 31 (by omega) (by omega),R2 0 31 (by omega) (by omega),R2 127 127 (by omega) (by omega),F _ (by decide)];have:=O [bC 0 31,ofP [127]] (by decide);simp only[List.map]at this;simp only[bA];rw[O2,this];exact iW (by decide +kernel) _ _ rfl rfl
 simp only[bR,cond_false];cases s==[103,114,97,112,104]
 case true =>
  simp only[dK];rw[show((33:Int),(126:Int))=(((33:Nat):Int),((126:Nat):Int))from rfl];rw[R 33 126 (by omega) (by omega),R2 33 126 (by omega) (by omega)];exact iW (by decide +kernel) _ _ rfl rfl
 simp only[bR,cond_false];cases s==[112,114,105,110,116]
 case true =>
  simp only[dK];rw[show((32:Int),(126:Int))=(((32:Nat):Int),((126:Nat):Int))from rfl];rw[R 32 126 (by omega) (by omega),R2 32 126 (by omega) (by omega)];exact iW (by decide +kernel) _ _ rfl rfl
 simp only[bR,cond_false];cases s==[112,117,110,99,116]
 case true =>
  simp only[dK];rw[show((33:Int),(126:Int))=(((33:Nat):Int),((126:Nat):Int))from rfl,show((33:Int),(47:Int))=(((33:Nat):Int),((47:Nat):Int))from rfl,show((58:Int),(64:Int))=(((58:Nat):Int),((64:Nat):Int))from rfl,show((91:Int),(96:Int))=(((91:Nat):Int),((96:Nat):Int))from rfl,show((123:Int),(126:Int))=(((123:Nat):Int),((126:Nat):Int))from rfl];rw[R 33 47 (by omega) (by omega),R 58 64 (by omega) (by omega),R 91 96 (by omega) (by omega),R 123 126 (by omega) (by omega),R2 33 126 (by omega) (by omega)];have:=O [bC 33 47,bC 58 64,bC 91 96,bC 123 126] (by decide);simp only[List.map]at this;simp only[bA];rw[this,zCe hn];exact iW (by decide +kernel) _ _ rfl rfl
 simp only[bR,cond_false];exact⟨by rw[qE],λ_=>false,by rw[Li]⟩
end Go.Dec
