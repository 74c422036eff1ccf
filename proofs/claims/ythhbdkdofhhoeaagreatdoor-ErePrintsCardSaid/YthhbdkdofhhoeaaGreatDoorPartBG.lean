/- Part of a proof over this seat: a library of my own, and what it says of this seat. No statement is proved here. -/
import Derived.Test.YthhbdkdofhhoeaaGreatDoorPartAW
import Derived.Test.YthhbdkdofhhoeaaGreatDoorPartAN
namespace Go.Dec
theorem aB{ρ:Type}{b:Bool}(h:b=true)(x:Option ρ):chk b x=x:=by subst h;rfl
theorem aI{ρ:Type}{b:Bool}(h:b=true)(x y:Option ρ):br b x y=x:=by subst h;rfl
theorem aC{ρ:Type}{b:Bool}(h:b=false)(x y:Option ρ):br b x y=y:=by subst h;rfl
@[simp] theorem yFz {α γ ρ:Type}(x:α) (k:α->Option ρ) (k':γ->Option ρ):ob2 (some (.inl x)) k k'=k x:=rfl
@[simp] theorem Bu {α γ ρ:Type}(x:γ) (k:α->Option ρ) (k':γ->Option ρ):ob2 (some (.inr x)) k k'=k' x:=rfl
theorem fC{ρ α:Type}(f:α->Option ρ)(x:α):jn f x=f x:=rfl
theorem yP {ρ α : Type} {B : (α -> Option ρ) -> α -> Option ρ} (st : Nat -> α) {N : Nat} {r : Option ρ}
    (h1 : ∀ i, i < N -> ∀ g, B g (st i) = g (st (i + 1))) (h2 : ∀ g, B g (st N) = r) : ∀ k i n, i + k = N -> k < n -> fix B n (st i) = r := by
  intro k;induction k with
  | zero => intro i n hi hn; rw [bI hn]; have : i = N := by omega
            subst this; exact h2 _
  | succ k ih => intro i n hi hn; rw [bI (by omega), h1 i (by omega)]; exact ih (i + 1) (n - 1) (by omega) (by omega)
theorem yBx {ρ α : Type} {B : (α -> Option ρ) -> α -> Option ρ} (st : Nat -> α) {lo N : Nat} {r : Option ρ}
    (h1 : ∀ i, lo <= i -> i < N -> ∀ g, B g (st i) = g (st (i + 1))) (h2 : ∀ g, B g (st N) = r) : ∀ k i n, i + k = N -> lo <= i -> k < n -> fix B n (st i) = r := by
  intro k;induction k with
  | zero => intro i n hi hl hn; rw [bI hn]; have : i = N := by omega
            subst this; exact h2 _
  | succ k ih => intro i n hi hl hn; rw [bI (by omega), h1 i hl (by omega)]; exact ih (i + 1) (n - 1) (by omega) (by omega) (by omega)
theorem sZ{f:Nat->Bool}{n:Nat}(h:(List.range n).all f=true){i:Nat}(hi:i<n):f i=true:=by
 rw[List.all_eq_true]at h;exact h i (by simpa using hi)
def bn:(Nat->Bool)->Nat->Nat | _,0=>0 | f,k+1=>(f 0).toNat+2*bn (fun i=>f (i+1)) k
theorem yGa:∀ (k:Nat) (f:Nat->Bool) (j:Nat),(bn f k).testBit j=(decide (j<k)&&f j)
 |0,f,j=>by simp[bn]
 |k+1,f,j=>by
  unfold bn;cases j with
  |zero=>simp;cases f 0<;>simp<;>omega
  |succ j =>
   rw[Nat.testBit_succ];have h:((f 0).toNat+2*bn (λi=>f (i+1)) k) / 2=bn (λi=>f (i+1)) k:=by cases f 0<;>simp<;>omega
   rw[h,yGa k];simp
theorem yGb:∀ (k:Nat) (f:Nat->Bool),bn f k<2 ^ k
 |0,f=>by simp[bn]
 |k+1,f=>by
  have:=yGb k (λi=>f (i+1));unfold bn;cases f 0<;>simp[Nat.pow_succ]<;>omega
theorem zIl:∀ (k:Nat) {f g:Nat->Bool},(∀ j,j<k->f j=g j)->bn f k=bn g k
 |0,f,g,h=>rfl
 |k+1,f,g,h=>by
  unfold bn;rw[h 0 (by omega),zIl k (λj hj=>h (j+1) (by omega))]
theorem yXn{x k:Nat}{f:Nat->Bool}(hx:x<2 ^ k)(h:∀ j,j<k->x.testBit j=f j):x=bn f k:=by
 apply Nat.eq_of_testBit_eq;intro j;rw[yGa];by_cases hj:j<k
 ·simp[hj,h j hj]
 ·simp only[hj,decide_false,Bool.false_and];exact Nat.testBit_lt_two_pow (Nat.lt_of_lt_of_le hx (Nat.pow_le_pow_right (by omega) (by omega)))
def Jh (p:Nat->Bool) (k:Nat):Nat:=bn (fun j=>p (64*k+j)) 64
def word (p:Nat->Bool) (k:Nat):Int:=(Jh p k:Nat)
def wd (p:Nat->Bool):List Int:=[word p 0,word p 1,word p 2,word p 3]
def bx (p:Nat->Bool):List Bool:=(List.range 256).map p
theorem tX(p:Nat->Bool)(k:Nat):Jh p k<2 ^ 64:=yGb _ _
theorem Ig(p:Nat->Bool)(k j:Nat):(Jh p k).testBit j=(decide (j<64)&&p (64*k+j)):=yGa _ _ _
theorem Xh{x k:Nat}{p:Nat->Bool}(hx:x<2 ^ 64)(h:∀ j,j<64->x.testBit j=p (64*k+j)):x=Jh p k:=yXn hx h
theorem Gg{p q:Nat->Bool}{k:Nat}(h:∀ i,64*k<=i->i<64*k+64->p i=q i):word p k=word q k:=by
 unfold word Jh;rw[zIl 64 (λj hj=>h (64*k+j) (by omega) (by omega))]
theorem yQ{p q:Nat->Bool}(h:∀ i,i<256->p i=q i):wd p=wd q:=by
 unfold wd;rw[Gg (λi _ _=>h i (by omega)),Gg (k:=1) (λi _ _=>h i (by omega)),Gg (k:=2) (λi _ _=>h i (by omega)),Gg (k:=3) (λi _ _=>h i (by omega))]
theorem kE{p q:Nat->Bool}(h:∀ i,i<256->p i=q i):bx p=bx q:=by
 unfold bx;apply List.map_congr_left;intro i hi;exact h i (by simpa using hi)
theorem word_inj{p q:Nat->Bool}{k:Nat}(h:word p k=word q k){i:Nat}(h1:64*k<=i)(h2:i<64*k+64):p i=q i:=by
 have h:Jh p k=Jh q k:=by unfold word at h;omega
 have:=congrArg (λx=>x.testBit (i-64*k)) h;simp only[Ig]at this;rw[show 64*k+(i-64*k)=i by omega]at this;have h3:i-64*k<64:=by omega
 simpa [h3]using this
theorem yUv{p q:Nat->Bool}(h:wd p=wd q){i:Nat}(hi:i<256):p i=q i:=by
 simp only[wd,aQ,and_true]at h;obtain⟨h0,h1,h2,h3⟩:=h;by_cases a:i<64
 ·exact word_inj h0 (by omega) (by omega)
 ·by_cases b:i<128
  ·exact word_inj h1 (by omega) (by omega)
  ·by_cases c:i<192
   ·exact word_inj h2 (by omega) (by omega)
   ·exact word_inj h3 (by omega) (by omega)
theorem Kj{p:Nat->Bool}{i:Nat}(d:Bool)(hi:i<256):(bx p).getD i d=p i:=by
 simp[bx,List.getD_eq_getElem?_getD,hi]
theorem Kk{p:Nat->Bool}{i:Nat}(b:Bool):(bx p).set i b=bx (λj=>if j=i then b else p j):=by
 apply List.ext_getElem?;intro j;by_cases hj:j<256
 ·simp only[bx,List.getElem?_set,List.length_map,List.length_range,List.getElem?_map];by_cases e:i=j
  ·subst e;simp[hj]
  ·simp[e,Ne.symm e,hj]
 ·simp only[bx,List.getElem?_set,List.length_map,List.length_range,List.getElem?_map];simp[hj];omega
theorem rX:wd (λ_=>false)=[0,0,0,0]:=by decide +kernel
theorem Dq:bx (λ_=>false)=List.replicate 256 false:=by decide +kernel
theorem wrapN{x:Nat}(h:x<2 ^ 64):IntKind.u64.wrap ((x:Nat):Int)=x:=IntWalk.u64_in _ (by omega)
theorem bvN{x:Nat}(h:x<2 ^ 64):(BitVec.ofInt 64 ((x:Nat):Int)).toNat=x:=by
 rw[BitVec.toNat_ofInt];omega
theorem ior{a b:Nat}(ha:a<2 ^ 64)(hb:b<2 ^ 64):fE .u64 .or (a:Int) (b:Int)=((a ||| b:Nat):Int):=by
 show IntKind.u64.wrap ((BitVec.ofInt 64 (a:Int) ||| BitVec.ofInt 64 (b:Int)).toNat:Int)=_;rw[BitVec.toNat_or,bvN ha,bvN hb];exact wrapN (Nat.or_lt_two_pow ha hb)
theorem xAa{a b:Nat}(ha:a<2 ^ 64)(hb:b<2 ^ 64):fE .u64 .xor (a:Int) (b:Int)=((a ^^^ b:Nat):Int):=by
 show IntKind.u64.wrap ((BitVec.ofInt 64 (a:Int) ^^^ BitVec.ofInt 64 (b:Int)).toNat:Int)=_;rw[BitVec.toNat_xor,bvN ha,bvN hb];exact wrapN (Nat.xor_lt_two_pow ha hb)
theorem xAb{a b:Nat}(ha:a<2 ^ 64)(hb:b<2 ^ 64):fE .u64 .and (a:Int) (b:Int)=((a &&& b:Nat):Int):=by
 show IntKind.u64.wrap ((BitVec.ofInt 64 (a:Int) &&& BitVec.ofInt 64 (b:Int)).toNat:Int)=_;rw[BitVec.toNat_and,bvN ha,bvN hb];exact wrapN (Nat.and_lt_two_pow _ hb)
theorem yQx(p q:Nat->Bool)(k:Nat):fE .u64 .or (word p k) (word q k)=word (λi=>p i||q i) k:=by
 unfold word;rw[ior (tX _ _) (tX _ _),Xh (p:=λi=>p i||q i) (Nat.or_lt_two_pow (tX p k) (tX q k))];intro j hj;simp[Ig,hj]
theorem yQy(j:Nat):(18446744073709551615:Nat).testBit j=decide (j<64):=by
 have:=Nat.testBit_two_pow_sub_one 64 j;simpa using this
theorem yNj(p:Nat->Bool)(k:Nat):fE .u64 .xor 18446744073709551615 (word p k)=word (λi=>!p i) k:=by
 unfold word;rw[show(18446744073709551615:Int)=((18446744073709551615:Nat):Int)from rfl];rw[xAa (by omega) (tX _ _),Xh (p:=λi=>!p i) (Nat.xor_lt_two_pow (by omega) (tX p k))];intro j hj;simp[Nat.testBit_xor,yQy,Ig,hj]
theorem yJe(p:Nat->Bool){i:Nat}(hi:i<256):(wd p).set (i / 64) (fE .u64 .or ((wd p).getD (i / 64) 0) (((2 ^ (i % 64):Nat)):Int))=wd (λj=>p j||decide (j=i)):=by
 have hb:2 ^ (i % 64)<2 ^ 64:=Nat.pow_lt_pow_right (by omega) (by omega);have hw:∀ k,k=i / 64->fE .u64 .or (word p k) (((2 ^ (i % 64):Nat)):Int)=word (λj=>p j||decide (j=i)) k:=by
  intro k hk;unfold word;rw[ior (tX _ _) hb,Xh (p:=λj=>p j||decide (j=i)) (Nat.or_lt_two_pow (tX p k) hb)];intro j hj;simp only[Nat.testBit_or,Ig,Nat.testBit_two_pow,hj,decide_true,Bool.true_and];congr 1;apply decide_eq_decide.2;omega
 have ho:∀ k,k≠i / 64->word p k=word (λj=>p j||decide (j=i)) k:=by
  intro k hk;apply Gg;intro j h1 h2;have:j≠i:=by omega
  simp[this]
 have hk:i / 64=0\/i / 64=1\/i / 64=2\/i / 64=3:=by omega
 rcases hk with h|h|h|h<;>rw[h]<;>simp only[wd,List.getD_cons_zero,List.getD_cons_succ,List.set_cons_zero,List.set_cons_succ]
 ·rw[hw 0 h.symm,ho 1 (by omega),ho 2 (by omega),ho 3 (by omega)]
 ·rw[hw 1 h.symm,ho 0 (by omega),ho 2 (by omega),ho 3 (by omega)]
 ·rw[hw 2 h.symm,ho 0 (by omega),ho 1 (by omega),ho 3 (by omega)]
 ·rw[hw 3 h.symm,ho 0 (by omega),ho 1 (by omega),ho 2 (by omega)]
theorem yJf:((List.range 256).all λi=>decide (pO .i64 (i:Int) 6=((i / 64:Nat):Int))&&decide (Zc .u64 1 (fE .i64 .and (i:Int) 63)=((2 ^ (i % 64):Nat):Int))&&decide (0<=fE .i64 .and (i:Int) 63)
 && decide (pO .u8 (i:Int) 6=((i / 64:Nat):Int))&&decide (Zc .u64 1 (fE .u8 .and (i:Int) 63)=((2 ^ (i % 64):Nat):Int))&&decide (0<=fE .u8 .and (i:Int) 63))=true:=by decide +kernel
theorem xAc{i:Nat}(hi:i<256):pO .i64 (i:Int) 6=((i / 64:Nat):Int)/\Zc .u64 1 (fE .i64 .and (i:Int) 63)=((2 ^ (i % 64):Nat):Int)/\0<=fE .i64 .and (i:Int) 63:=by
 have:=sZ yJf hi;simp only[aH,decide_eq_true_eq]at this;exact⟨this.1.1.1.1.1,this.1.1.1.1.2,this.1.1.1.2⟩
theorem yUw{i:Nat}(hi:i<256):pO .u8 (i:Int) 6=((i / 64:Nat):Int)/\Zc .u64 1 (fE .u8 .and (i:Int) 63)=((2 ^ (i % 64):Nat):Int)/\0<=fE .u8 .and (i:Int) 63:=by
 have:=sZ yJf hi;simp only[aH,decide_eq_true_eq]at this;exact⟨this.1.1.2,this.1.2,this.2⟩
theorem Xi:Ty.dflt (.int .u64)=(0:Int):=rfl
def dA (a b:Nat):Nat->Bool:=fun i=>decide (a<=i)&&decide (i<=b)
theorem yBy{p q:Nat->Bool}(h:∀ i,i<256->p i=q i):some (wd p)=some (wd q):=by rw[yQ h]
theorem Uy{p q:Nat->Bool}(h:∀ i,i<256->p i=q i):some (bx p)=some (bx q):=by rw[kE h]
theorem Gh{n a b:Nat}(hn:300<=n)(ha:a<256)(hb:b<256):eB n ((a:Int),(b:Int))=some (wd (dA a b)):=by
 unfold eB;simp only;rw[aW (by omega) (by omega)];by_cases hab:a<=b
 ·have:=yBx (lo:=a) (B:=sG n) (r:=some (wd (dA a b))) (N:=b+1) (λi=>((b:Int),(i:Int),wd (λj=>decide (a<=j)&&decide (j<i)),()))
   (by
    intro i hlo hi g;have hi2:i<256:=by omega
    obtain⟨s1,s2,s3⟩:=xAc hi2;rw[sG];simp only;have hc:i<=b:=by omega
    rw[aW (by omega) (by omega),s1,s2];rw[aI (by simp;omega),aB (by decide),aB (eT (by omega) (by omega)),aB (by simp;omega),aB (by simpa using s3),aB (eT (by omega) (by omega)),aB (by simp;omega)];rw[aW (by omega) (by omega),Xi,Int.toNat_natCast,yJe _ hi2];have:wd (λj=>(decide (a<=j)&&decide (j<i))||decide (j=i))=wd (λj=>decide (a<=j)&&decide (j<i+1)):=by
     refine yQ λj hj=>?_
     rw[Bool.eq_iff_iff];simp;omega
    rw[this];rfl)
   (by
    intro g;rw[sG];simp only;rw[aC (by rw[aW (by omega) (by omega)];simp;omega)];refine yBy λi hi=>?_
    simp only[dA];rw[Bool.eq_iff_iff];simp;omega)
   (b+1-a) a n (by omega) (by omega) (by omega)
  have e:wd (λj=>decide (a<=j)&&decide (j<a))=[0,0,0,0]:=by
   rw[<- rX];refine yQ λj hj=>?_
   rw[Bool.eq_iff_iff];simp
  simp only[e]at this;exact this
 ·rw[bI (by omega),sG];simp only;rw[aC (by rw[aW (by omega) (by omega)];simp;omega),<- rX];refine yBy λj hj=>?_
  simp only[dA];rw[Bool.eq_iff_iff];simp;omega
theorem zMd{n:Nat}(hn:5<=n)(p:Nat->Bool):Nl n (wd p)=some (wd λi=>!p i):=by
 obtain⟨m,rfl⟩:∃ m,n=m+5:=⟨n-5,by omega⟩;have h:=yNj p;have e:wd (λi=>!p i)=[fE .u64 .xor 18446744073709551615 (word p 0),fE .u64 .xor 18446744073709551615 (word p 1),fE .u64 .xor 18446744073709551615 (word p 2),fE .u64 .xor 18446744073709551615 (word p 3)]:=by rw[h,h,h,h];rfl
 rw[e];rfl
theorem yGc{n:Nat}(hn:5<=n)(g0:List (List Int) × Int × Int × List Int × Unit->Option (List Int))(l:List (List Int))(c i:Int)(p q:Nat->Bool):fix (zAk n g0) n (l,c,i,0,wd p,wd q,())=g0 (l,c,IntKind.wrap .i64 (i+1),wd (λi=>p i||q i),()):=by
 obtain⟨m,rfl⟩:∃ m,n=m+5:=⟨n-5,by omega⟩;have h:=yQx p q;have e:wd (λi=>p i||q i)=[fE .u64 .or (word p 0) (word q 0),fE .u64 .or (word p 1) (word q 1),fE .u64 .or (word p 2) (word q 2),fE .u64 .or (word p 3) (word q 3)]:=by rw[h,h,h,h];rfl
 rw[e];rfl
theorem zQy{n:Nat}(ps:List (Nat->Bool))(hn:5<=n)(hl:ps.length<n)(hm:ps.length<1000):qN n (ps.map wd)=some (wd λi=>ps.any (· i)):=by
 unfold qN;simp only[List.length_map];have:=yP (B:=Eo n) (r:=some (wd λi=>ps.any (· i))) (N:=ps.length) (λi=>(ps.map wd,(ps.length:Int),(i:Int),wd (λj=>(ps.take i).any (· j)),()))
  (by
   intro i hi g;rw[Eo];simp only;rw[aI (by simp;omega),aB (eT (by omega) (by simp;omega))];have hg:aR (Ty.dflt (.arr 4 (.int .u64))) (ps.map wd) (i:Int)=wd ps[i]:=by
    simp[aR,List.getD_eq_getElem?_getD,hi]
   rw[hg,yGc hn,aW (by omega) (by omega)];have hw:wd (λj=>(ps.take i).any (· j)||ps[i] j)=wd (λj=>(ps.take (i+1)).any (· j)):=by
    refine yQ λj hj=>?_
    rw[List.take_succ_eq_append_getElem hi,List.any_append];simp
   rw[hw];rfl)
  (by
   intro g;rw[Eo];simp only;rw[aC (by simp)];simp)
  ps.length 0 n (by omega) hl
 simpa [rX]using this
def ofP (s:List UInt8):Nat->Bool:=fun i=>s.any fun c=>decide (c.toNat = i)
theorem gX{α:Type}{d:α}{s:List α}{i:Nat}(h:i<s.length):aR d s (i:Int)=s[i]:=by
 simp[aR,List.getD_eq_getElem?_getD,h]
theorem zXn{s:List UInt8}{i:Nat}(h:i<s.length):ofP (s.take (i+1))=λj=>ofP (s.take i) j||decide (j=s[i].toNat):=by
 funext j;simp only[ofP];rw[List.take_succ_eq_append_getElem h,List.any_append];simp[eq_comm]
theorem zCh{n:Nat}(s:List UInt8)(hl:s.length<n)(hm:s.length<100000):wI n s=some (wd (ofP s)):=by
 unfold wI;simp only;have:=yP (B:=Ep n) (r:=some (wd (ofP s))) (N:=s.length) (λi=>(s,(s.length:Int),(i:Int),wd (ofP (s.take i)),()))
  (by
   intro i hi g;have hc:s[i].toNat<256:=s[i].toNat_lt;obtain⟨s1,s2,s3⟩:=yUw hc;rw[Ep];simp only;rw[gX hi,s1,s2];rw[aI (by simp;omega),aB (fQ hi),aB (by decide),aB (eT (by omega) (by omega)),aB (by simp;omega),aB (fQ hi),aB (by simpa using s3),aB (eT (by omega) (by omega)),aB (by simp;omega)];rw[aW (by omega) (by omega),Xi,Int.toNat_natCast,yJe _ hc,zXn hi];rfl)
  (by
   intro g;rw[Ep];simp only;rw[aC (by simp)];simp)
  s.length 0 n (by omega) hl
 have e:wd (ofP (s.take 0))=[0,0,0,0]:=by rw[<- rX];rfl
 simp only[e]at this;simpa using this
theorem zQ{n a b:Nat}(hn:300<=n)(ha:a<256)(hb:b<256):dR n ((a:Int),(b:Int))=some (bx (dA a b)):=by
 unfold dR;simp only;rw[aW (by omega) (by omega)];by_cases hab:a<=b
 ·have:=yBx (lo:=a) (B:=pE n) (r:=some (bx (dA a b))) (N:=b+1) (λi=>((b:Int),(i:Int),List.replicate 256 false,bx (λj=>decide (a<=j)&&decide (j<i)),()))
   (by
    intro i hlo hi g;have hi2:i<256:=by omega
    rw[pE];simp only;have hc:i<=b:=by omega
    rw[aW (by omega) (by omega)];rw[aI (by simp;omega),aB (eT (by omega) (by omega)),aB (by simp;omega)];rw[aW (by omega) (by omega),Int.toNat_natCast,Kk];have:bx (λj=>if j=i then true else(decide (a<=j)&&decide (j<i)))=bx (λj=>decide (a<=j)&&decide (j<i+1)):=by
     refine kE λj hj=>?_
     rw[Bool.eq_iff_iff];split<;>simp<;>omega
    rw[this];rfl)
   (by
    intro g;rw[pE];simp only;rw[aC (by rw[aW (by omega) (by omega)];simp;omega)];refine Uy λi hi=>?_
    simp only[dA];rw[Bool.eq_iff_iff];simp;omega)
   (b+1-a) a n (by omega) (by omega) (by omega)
  have e:bx (λj=>decide (a<=j)&&decide (j<a))=List.replicate 256 false:=by
   rw[<- Dq];refine kE λj hj=>?_
   rw[Bool.eq_iff_iff];simp
  simp only[e]at this;exact this
 ·rw[bI (by omega),pE];simp only;rw[aC (by rw[aW (by omega) (by omega)];simp;omega),<- Dq];refine Uy λj hj=>?_
  simp only[dA];rw[Bool.eq_iff_iff];simp;omega
theorem zXo{n:Nat}(hn:300<=n)(p:Nat->Bool):Kc n (bx p)=some (bx λi=>!p i):=by
 unfold Kc;simp only;have:=yP (B:=xL n) (r:=some (bx λi=>!p i)) (N:=256) (λi=>((i:Int),bx (λj=>if j<i then !p j else p j),List.replicate 256 false,()))
  (by
   intro i hi g;rw[xL];simp only;rw[aI (by simp;omega),aB (eT (by omega) (by omega)),aB (by simp;omega),aB (eT (by omega) (by omega)),aB (by simp;omega)];rw[aW (by omega) (by omega),Int.toNat_natCast,Kj _ hi,Kk];have:bx (λj=>if j=i then !(if i<i then !p i else p i)else if j<i then !p j else p j)=bx (λj=>if j<i+1 then !p j else p j):=by
    refine kE λj hj=>?_
    by_cases e:j=i
    ·subst e;simp
    ·by_cases e2:j<i
     ·simp[e,e2,Nat.lt_succ_of_lt e2]
     ·simp[e,e2,show ¬ j<i+1 by omega]
   rw[this];rfl)
  (by
   intro g;rw[xL];simp only;rw[aC (by simp)];refine Uy λi hi=>?_
   simp[hi])
  256 0 n (by omega) (by omega)
 have e:bx (λj=>if j<0 then !p j else p j)=bx p:=kE λj hj=>by simp
 rw[e]at this;exact this
theorem Ji{n:Nat}(hn:300<=n)(p q:Nat->Bool):lC n (bx p,bx q)=some (bx λi=>p i||q i):=by
 unfold lC;simp only;have:=yP (B:=zG n) (r:=some (bx λi=>p i||q i)) (N:=256) (λi=>((i:Int),bx (λj=>if j<i then p j||q j else p j),bx q,List.replicate 256 false,()))
  (by
   intro i hi g;have key:∀ b,b=(p i||q i)->(g (((i+1:Nat):Int),bx (λj=>if j=i then b else if j<i then p j||q j else p j),bx q,List.replicate 256 false,())=g (((i+1:Nat):Int),bx (λj=>if j<i+1 then p j||q j else p j),bx q,List.replicate 256 false,())):=by
    intro b hb;have:bx (λj=>if j=i then b else if j<i then p j||q j else p j)=bx (λj=>if j<i+1 then p j||q j else p j):=by
     refine kE λj hj=>?_
     by_cases e:j=i
     ·subst e;simp[hb]
     ·by_cases e2:j<i
      ·simp[e,e2,Nat.lt_succ_of_lt e2]
      ·simp[e,e2,show ¬ j<i+1 by omega]
    rw[this]
   rw[zG];simp only;rw[aI (by simp;omega),aB (eT (by omega) (by omega)),aB (by simp;omega),aB (eT (by omega) (by omega)),aB (by simp;omega)];rw[aW (by omega) (by omega),Int.toNat_natCast,Kj _ hi,Kj _ hi,Kk,Kk,show(i:Int)+1=((i+1:Nat):Int)from rfl];simp only[Nat.lt_irrefl,if_false];cases hp:p i
   ·rw[aC rfl,aB (eT (by omega) (by omega)),aB (decide_eq_true hi),aB (eT (by omega) (by omega)),aB (decide_eq_true hi)];rw[key (q i) (by rw[hp];rfl)]
   ·rw[aI rfl];exact key true (by rw[hp];rfl))
  (by
   intro g;rw[zG];simp only;rw[aC (by simp)];refine Uy λi hi=>?_
   simp[hi])
  256 0 n (by omega) (by omega)
 have e:bx (λj=>if j<0 then p j||q j else p j)=bx p:=kE λj hj=>by simp
 rw[e]at this;exact this
theorem Jj{n:Nat}(s:List UInt8)(hl:s.length<n)(hm:s.length<100000):qO n s=some (bx (ofP s)):=by
 unfold qO;simp only;have:=yP (B:=zH n) (r:=some (bx (ofP s))) (N:=s.length) (λi=>(s,(i:Int),List.replicate 256 false,bx (ofP (s.take i)),()))
  (by
   intro i hi g;have hc:s[i].toNat<256:=s[i].toNat_lt;rw[zH];simp only;rw[gX hi];rw[aI (by simp;omega),aB (fQ hi),aB (eT (by omega) (by omega)),aB (by simp;omega)];rw[aW (by omega) (by omega),Int.toNat_natCast,Kk,zXn hi];have:bx (λj=>if j=s[i].toNat then true else ofP (s.take i) j)=bx (λj=>ofP (s.take i) j||decide (j=s[i].toNat)):=by
    refine kE λj hj=>?_
    by_cases e:j=s[i].toNat
    ·rw[if_pos e];simp[e]
    ·rw[if_neg e];simp[e]
   rw[this];rfl)
  (by
   intro g;rw[zH];simp only;rw[aC (by simp)];simp)
  s.length 0 n (by omega) hl
 have e:bx (ofP (s.take 0))=List.replicate 256 false:=by rw[<- Dq];rfl
 simp only[e]at this;exact this
def bG (p:Nat->Bool):List UInt8:=((List.range 256).filter p).map UInt8.ofNat
theorem Ih{n:Nat}(hn:300<=n)(p:Nat->Bool):nO n (bx p)=some (bG p):=by
 unfold nO;simp only;have:=yP (B:=tZ n) (r:=some (bG p)) (N:=256) (λi=>((i:Int),bx p,((List.range i).filter p).map (λj=>((j:Nat):Int)),()))
  (by
   intro i hi g;have hle:((List.range i).filter p).length<=i:=by have:=List.length_filter_le p (List.range i);simpa using this
   rw[tZ];simp only;rw[aI (by simp;omega),aB (eT (by omega) (by omega)),aB (by simp;omega)];rw[aW (by omega) (by omega),Int.toNat_natCast,Kj _ hi,show(i:Int)+1=((i+1:Nat):Int)from rfl,IntWalk.u8_in _ (by omega),List.range_succ];cases hp:p i
   ·rw[aC rfl];simp[hp]
   ·rw[aI rfl,aB (by simp[room];omega)];simp[hp])
  (by
   intro g;rw[tZ];simp only;rw[aC (by simp)];simp[fZ,bG])
  256 0 n (by omega) (by omega)
 exact this
theorem Xj(p:Nat->Bool):(bG p).length<=256:=by
 have:=List.length_filter_le p (List.range 256);simpa [bG]using this
theorem Le{n:Nat}(hn:300<=n)(p:Nat->Bool):vM n (bx p)=some ((bG p).length:Int):=by
 unfold vM;simp only;rw[Ih hn];rfl
theorem yAr{p:Nat->Bool}:(bG p).length=0<->∀ i,i<256->p i=false:=by
 simp[bG,List.filter_eq_nil_iff]
theorem yUx{p:Nat->Bool}:wd p=[0,0,0,0]<->∀ i,i<256->p i=false:=by
 rw[<- rX];exact⟨λh i hi=>yUv h hi,λh=>yQ h⟩
theorem xAd{p q:Nat->Bool}:Ty.beq (.arr 4 (.int .u64)) (wd p) (wd q)=true<->wd p=wd q:=beq_iff rfl
def vN (p:Nat->Bool) (i k:Nat):Nat:=bn (fun j=>p (max i (64*k)+j)) (64*(k+1)-max i (64*k))
def vW (p:Nat->Bool) (i:Nat):List Int:=[((vN p i 0:Nat):Int),((vN p i 1:Nat):Int),((vN p i 2:Nat):Int),((vN p i 3:Nat):Int)]
theorem yPe(p:Nat->Bool)(i k:Nat):vN p i k<2 ^ 64:=by
 unfold vN;exact Nat.lt_of_lt_of_le (yGb _ _) (Nat.pow_le_pow_right (by omega) (by omega))
theorem yBz(p:Nat->Bool){i k:Nat}(h:i / 64=k):vN p i k=(p i).toNat+2*vN p (i+1) k:=by
 unfold vN;have h1:max i (64*k)=i:=by omega
 have h2:max (i+1) (64*k)=i+1:=by omega
 rw[h1,h2,show 64*(k+1)-i=(64*(k+1)-(i+1))+1 by omega];rw[bn];congr 2;apply zIl;intro j hj;show p (i+(j+1))=p (i+1+j);congr 1;omega
theorem zXp(p:Nat->Bool){i k:Nat}(h:i / 64≠k):vN p (i+1) k=vN p i k:=by
 unfold vN;by_cases h1:i<64*k
 ·have h1':max i (64*k)=64*k:=by omega
  have h2:max (i+1) (64*k)=64*k:=by omega
  rw[h1',h2]
 ·have h3:64*(k+1)-max i (64*k)=0:=by omega
  have h4:64*(k+1)-max (i+1) (64*k)=0:=by omega
  rw[h3,h4];rfl
theorem yCa(p:Nat->Bool):vW p 0=wd p:=by
 unfold vW wd word Jh vN;simp[show ∀ k,max 0 (64*k)=64*k by omega]
theorem yUy(p:Nat->Bool){i:Nat}(hi:i<256):(vW p (i+1)).set (i / 64) ((vN p i (i / 64):Nat):Int)=vW p i:=by
 have hk:i / 64=0\/i / 64=1\/i / 64=2\/i / 64=3:=by omega
 have ho:∀ k,i / 64≠k->vN p (i+1) k=vN p i k:=λk h=>zXp p h
 rcases hk with h|h|h|h<;>rw[h]<;>simp only[vW,List.set_cons_zero,List.set_cons_succ]
 ·rw[ho 1 (by omega),ho 2 (by omega),ho 3 (by omega)]
 ·rw[ho 0 (by omega),ho 2 (by omega),ho 3 (by omega)]
 ·rw[ho 0 (by omega),ho 1 (by omega),ho 3 (by omega)]
 ·rw[ho 0 (by omega),ho 1 (by omega),ho 2 (by omega)]
theorem yQz(p:Nat->Bool){i:Nat}(hi:i<256):(vW p i).set (i / 64) ((vN p (i+1) (i / 64):Nat):Int)=vW p (i+1):=by
 have hk:i / 64=0\/i / 64=1\/i / 64=2\/i / 64=3:=by omega
 have ho:∀ k,i / 64≠k->vN p (i+1) k=vN p i k:=λk h=>zXp p h
 rcases hk with h|h|h|h<;>rw[h]<;>simp only[vW,List.set_cons_zero,List.set_cons_succ]
 ·rw[ho 1 (by omega),ho 2 (by omega),ho 3 (by omega)]
 ·rw[ho 0 (by omega),ho 2 (by omega),ho 3 (by omega)]
 ·rw[ho 0 (by omega),ho 1 (by omega),ho 3 (by omega)]
 ·rw[ho 0 (by omega),ho 1 (by omega),ho 2 (by omega)]
theorem yJg(p:Nat->Bool){i k:Nat}(hk:k<4):(vW p i).getD k 0=((vN p i k:Nat):Int):=by
 have:k=0\/k=1\/k=2\/k=3:=by omega
 rcases this with rfl|rfl|rfl|rfl<;>rfl
theorem yUz(p:Nat->Bool)(i:Nat):(vW p i).length=4:=rfl
theorem zOy{n:Nat}(hn:300<=n)(p:Nat->Bool):Av n (bx p)=some (wd p):=by
 unfold Av;simp only;have:=yP (B:=uD n) (r:=some (wd p)) (N:=256) (λi=>(255-(i:Int),bx p,[0,0,0,0],vW p (256-i),()))
  (by
   intro i hi g;obtain⟨j,hj⟩:∃ j,j=255-i:=⟨_,rfl⟩;have e1:(255:Int)-(i:Int)=(j:Int):=by omega
   have e2:256-i=j+1:=by omega
   have e3:(255:Int)-((i+1:Nat):Int)=(j:Int)-1:=by omega
   have e4:256-(i+1)=j:=by omega
   have hj2:j<256:=by omega
   have hk:j / 64<4:=by omega
   have hv:IntKind.wrap .i64 (Int.tdiv (j:Int) 64)=((j / 64:Nat):Int):=by
    rw[IntWalk.i64_quo _ _ (by omega)];rfl
   have hs:=yBz p (i:=j) rfl;have hlt:=yPe p j (j / 64);rw[e1,e2,e3,e4,uD];simp only;rw[aI (by simp),aB (by decide),aB (by decide),hv,aB (eT (by omega) (by omega)),aB (by simp;omega),aB (eT (by omega) (by omega)),aB (by simp;omega),aB (eT (by omega) (by omega)),aB (by simp;omega)];rw[Int.toNat_natCast,Int.toNat_natCast,Xi,yJg p hk,Kj _ hj2,aW (by omega) (by omega)];rw[<- yUy p hj2];cases hp:p j
   ·rw[aC rfl];rw[hp]at hs;rw[IntWalk.u64_in _ (by simp at hs;omega)];have:((vN p (j+1) (j / 64):Nat):Int)*2=((vN p j (j / 64):Nat):Int):=by simp at hs;omega
    rw[this]
   ·rw[aI rfl,aB (by decide),aB (eT (by omega) (by omega)),aB (by simp;omega),aB (eT (by omega) (by omega)),aB (by simp;omega)];rw[hp]at hs;simp only[Bool.toNat_true]at hs;rw[IntWalk.u64_in _ (by omega)];have hg:∀ y,((vW p (j+1)).set (j / 64) y).getD (j / 64) 0=y:=by
     intro y;rw[List.getD_eq_getElem?_getD,List.getElem?_set_self (by rw[yUz];exact hk)];rfl
    rw[hg,IntWalk.u64_in _ (by omega),List.set_set];have:((vN p (j+1) (j / 64):Nat):Int)*2+1=((vN p j (j / 64):Nat):Int):=by omega
    rw[this])
  (by
   intro g;rw[uD];simp only;rw[aC (by simp)];rw[show 256-256=0 from rfl,yCa])
  256 0 n (by omega) (by omega)
 exact this
theorem zSt{n:Nat}(hn:300<=n)(p:Nat->Bool):Ew n (wd p)=some (bx p):=by
 unfold Ew;simp only;have:=yP (B:=vO n) (r:=some (bx p)) (N:=256) (λi=>((i:Int),vW p i,List.replicate 256 false,bx (λj=>decide (j<i)&&p j),()))
  (by
   intro i hi g;have hk:i / 64<4:=by omega
   have hv:IntKind.wrap .i64 (Int.tdiv (i:Int) 64)=((i / 64:Nat):Int):=by
    rw[IntWalk.i64_quo _ _ (by omega)];rfl
   have hs:=yBz p (i:=i) rfl;have hlt:=yPe p i (i / 64);rw[vO];simp only;rw[hv,Int.toNat_natCast,Int.toNat_natCast,Xi,yJg p hk,Kk];have e1:IntKind.wrap .u64 (Int.tdiv ((vN p i (i / 64):Nat):Int) 2)=((vN p (i+1) (i / 64):Nat):Int):=by
    rw[IntWalk.u64_quo _ _ (by omega)];cases hp:p i<;>rw[hp]at hs<;>simp at hs<;>omega
   have e2:(Int.tmod ((vN p i (i / 64):Nat):Int) 2==1)=p i:=by
    rw[Int.tmod_eq_emod_of_nonneg (by omega)];cases hp:p i<;>rw[hp]at hs<;>simp at hs<;>simp<;>omega
   rw[e1,e2,yQz p hi];rw[aI (by simp;omega),aB (by decide),aB (eT (by omega) (by omega)),aB (by simp;omega),aB (by decide),aB (eT (by omega) (by omega)),aB (by simp;omega),aB (by decide),aB (by decide),aB (eT (by omega) (by omega)),aB (by simp;omega),aB (by decide),aB (eT (by omega) (by omega)),aB (by simp;omega)];rw[aW (by omega) (by omega)];have:bx (λj=>if j=i then p i else decide (j<i)&&p j)=bx (λj=>decide (j<i+1)&&p j):=by
    refine kE λj hj=>?_
    by_cases e:j=i
    ·subst e;simp
    ·rw[if_neg e];congr 1;apply decide_eq_decide.2;omega
   rw[this];rfl)
  (by
   intro g;rw[vO];simp only;rw[aC (by simp)];refine Uy λi hi=>?_
   simp[hi])
  256 0 n (by omega) (by omega)
 have e:bx (λj=>decide (j<0)&&p j)=List.replicate 256 false:=by rw[<- Dq];exact kE λj hj=>by simp
 rw[e,yCa]at this;exact this
theorem zMe{n:Nat}(hn:300<=n)(p q:Nat->Bool):fix (pF n) n (0,List.replicate 256 false,bx p,bx q,())=some (bx (λi=>q i&&!p i),true):=by
 have:=yP (B:=pF n) (r:=some (bx (λi=>q i&&!p i),true)) (N:=256) (λi=>((i:Int),List.replicate 256 false,bx p,bx (λj=>if j<i then q j&&!p j else q j),()))
  (by
   intro i hi g;have key:∀ b,b=(q i&&!p i)->(g (((i+1:Nat):Int),List.replicate 256 false,bx p,bx (λj=>if j=i then b else if j<i then q j&&!p j else q j),())=g (((i+1:Nat):Int),List.replicate 256 false,bx p,bx (λj=>if j<i+1 then q j&&!p j else q j),())):=by
    intro b hb;have:bx (λj=>if j=i then b else if j<i then q j&&!p j else q j)=bx (λj=>if j<i+1 then q j&&!p j else q j):=by
     refine kE λj hj=>?_
     by_cases e:j=i
     ·subst e;simp[hb]
     ·by_cases e2:j<i
      ·simp[e,e2,Nat.lt_succ_of_lt e2]
      ·simp[e,e2,show ¬ j<i+1 by omega]
    rw[this]
   rw[pF];simp only;rw[aI (by simp;omega),aB (eT (by omega) (by omega)),aB (by simp;omega)];rw[aW (by omega) (by omega),Int.toNat_natCast,Kj _ hi,Kj _ hi,Kk,Kk,show(i:Int)+1=((i+1:Nat):Int)from rfl];simp only[Nat.lt_irrefl,if_false];cases hq:q i
   ·rw[aC rfl,aB (eT (by omega) (by omega)),aB (decide_eq_true hi)];exact key false (by rw[hq];rfl)
   ·rw[aI rfl,aB (eT (by omega) (by omega)),aB (decide_eq_true hi),aB (eT (by omega) (by omega)),aB (decide_eq_true hi)];exact key (!p i) (by rw[hq];rfl))
  (by
   intro g;rw[pF];simp only;rw[aC (by simp)];have e:bx (λj=>if j<256 then q j&&!p j else q j)=bx (λi=>q i&&!p i):=kE λj hj=>by simp[hj]
   rw[e])
  256 0 n (by omega) (by omega)
 have e:bx (λj=>if j<0 then q j&&!p j else q j)=bx q:=kE λj hj=>by simp
 rw[e]at this;exact this
def zXq (ps:List (Nat->Bool)):Nat->Bool:=fun i=>ps.any (· i)
def Qc (s:List UInt8):Option (Nat->Bool) :=bif s==[117,112,112,101,114] then some (dA 65 90) else bif s==[108,111,119,101,114] then some (dA 97 122) else bif s==[97,108,112,104,97] then some (zXq [dA 65 90,dA 97 122]) else bif s==[100,105,103,105,116] then some (dA 48 57) else bif s==[97,108,110,117,109] then some (zXq [dA 65 90,dA 97 122,dA 48 57]) else bif s==[120,100,105,103,105,116] then some (zXq [dA 48 57,dA 65 70,dA 97 102]) else bif s==[98,108,97,110,107] then some (ofP [32,9]) else bif s==[115,112,97,99,101] then some (ofP [32,9,10,11,12,13]) else bif s==[99,110,116,114,108] then some (zXq [dA 0 31,ofP [127]]) else bif s==[103,114,97,112,104] then some (dA 33 126) else bif s==[112,114,105,110,116] then some (dA 32 126) else bif s==[112,117,110,99,116] then some (zXq [dA 33 47,dA 58 64,dA 91 96,dA 123 126]) else none
def yCb(o:Option (Nat->Bool))(a:Option (List Int × Bool))(b:Option (List Bool × Bool)):Prop:=match o with
 |some p=>a=some (wd p,true)/\b=some (bx p,true)
 |none=>a=some (wd λ_=>false,false)/\∃ p,b=some (bx p,false)
theorem kX{p q:Nat->Bool}(h:((List.range 256).all λi=>p i==q i)=true)(o:Option (List Int × Bool))(o2:Option (List Bool × Bool))(h1:o=some (wd p,true))(h2:o2=some (bx q,true)):yCb (some p) o o2:=by
 refine⟨h1,?_⟩;rw[h2];have:bx q=bx p:=kE λi hi=>by have:=sZ h hi;simp at this;exact this.symm
 rw[this]
theorem zMf{n:Nat}(hn:300<=n)(s:List UInt8):yCb (Qc s) (Ka n s) (Au n s):=by
 have R:∀ a b:Nat,a<256->b<256->eB n ((a:Int),(b:Int))=some (wd (dA a b)):=λa b ha hb=>Gh hn ha hb
 have R2:∀ a b:Nat,a<256->b<256->dR n ((a:Int),(b:Int))=some (bx (dA a b)):=λa b ha hb=>zQ hn ha hb
 have O:∀ ps:List (Nat->Bool),ps.length<10->qN n (ps.map wd)=some (wd λi=>ps.any (· i)):=λps h=>zQy ps (by omega) (by omega) (by omega)
 have O2:=λp q=>Ji hn p q
 have F:∀ s:List UInt8,s.length<10->wI n s=some (wd (ofP s)):=λs h=>zCh s (by omega) (by omega)
 have F2:∀ s:List UInt8,s.length<10->qO n s=some (bx (ofP s)):=λs h=>Jj s (by omega) (by omega)
 unfold Ka Au Qc;simp only;rw[show((65:Int),(90:Int))=(((65:Nat):Int),((90:Nat):Int))from rfl,show((97:Int),(122:Int))=(((97:Nat):Int),((122:Nat):Int))from rfl,show((48:Int),(57:Int))=(((48:Nat):Int),((57:Nat):Int))from rfl];rw[R 65 90 (by omega) (by omega),R 97 122 (by omega) (by omega),R 48 57 (by omega) (by omega),R2 65 90 (by omega) (by omega),R2 97 122 (by omega) (by omega),R2 48 57 (by omega) (by omega)];simp only[aK];rw[O2];simp only[aK];rw[O2];simp only[aK];cases s==[117,112,112,101,114]
 case true=>exact kX (by decide +kernel) _ _ rfl rfl
 simp only[aZ,cond_false];cases s==[108,111,119,101,114]
 case true=>exact kX (by decide +kernel) _ _ rfl rfl
 simp only[aZ,cond_false];cases s==[97,108,112,104,97]
 case true =>
  have:=O [dA 65 90,dA 97 122] (by decide);simp only[List.map]at this;simp only[bQ,this,aK];exact kX (by decide +kernel) _ _ rfl rfl
 simp only[aZ,cond_false];cases s==[100,105,103,105,116]
 case true=>exact kX (by decide +kernel) _ _ rfl rfl
 simp only[aZ,cond_false];cases s==[97,108,110,117,109]
 case true =>
  have:=O [dA 65 90,dA 97 122,dA 48 57] (by decide);simp only[List.map]at this;simp only[bQ,this,aK];exact kX (by decide +kernel) _ _ rfl rfl
 simp only[aZ,cond_false];cases s==[120,100,105,103,105,116]
 case true =>
  have:=O [dA 48 57,dA 65 70,dA 97 102] (by decide);simp only[List.map]at this;simp only[bQ];rw[show((65:Int),(70:Int))=(((65:Nat):Int),((70:Nat):Int))from rfl,show((97:Int),(102:Int))=(((97:Nat):Int),((102:Nat):Int))from rfl];rw[R 65 70 (by omega) (by omega),R 97 102 (by omega) (by omega),R2 65 70 (by omega) (by omega),R2 97 102 (by omega) (by omega)];simp only[aK];rw[O2,this];simp only[aK];rw[O2];exact kX (by decide +kernel) _ _ rfl rfl
 simp only[aZ,cond_false];cases s==[98,108,97,110,107]
 case true =>
  simp only[bQ];rw[F _ (by decide),F2 _ (by decide)];exact kX (by decide +kernel) _ _ rfl rfl
 simp only[aZ,cond_false];cases s==[115,112,97,99,101]
 case true =>
  simp only[bQ];rw[show((9:Int),(13:Int))=(((9:Nat):Int),((13:Nat):Int))from rfl];rw[F _ (by decide),F2 _ (by decide),R2 9 13 (by omega) (by omega)];simp only[aK];rw[O2];exact kX (by decide +kernel) _ _ rfl rfl
 simp only[aZ,cond_false];cases s==[99,110,116,114,108]
 case true =>
  simp only[bQ];rw[show((0:Int),(31:Int))=(((0:Nat):Int),((31:Nat):Int))from rfl,show((127:Int),(127:Int))=(((127:Nat):Int),((127:Nat):Int))from rfl];rw[R 0 31 (by omega) (by omega),R2 0 31 (by omega) (by omega),R2 127 127 (by omega) (by omega),F _ (by decide)];have:=O [dA 0 31,ofP [127]] (by decide);simp only[List.map]at this;simp only[aK];rw[O2,this];exact kX (by decide +kernel) _ _ rfl rfl
 simp only[aZ,cond_false];cases s==[103,114,97,112,104]
 case true =>
  simp only[bQ];rw[show((33:Int),(126:Int))=(((33:Nat):Int),((126:Nat):Int))from rfl];rw[R 33 126 (by omega) (by omega),R2 33 126 (by omega) (by omega)];exact kX (by decide +kernel) _ _ rfl rfl
 simp only[aZ,cond_false];cases s==[112,114,105,110,116]
 case true =>
  simp only[bQ];rw[show((32:Int),(126:Int))=(((32:Nat):Int),((126:Nat):Int))from rfl];rw[R 32 126 (by omega) (by omega),R2 32 126 (by omega) (by omega)];exact kX (by decide +kernel) _ _ rfl rfl
 simp only[aZ,cond_false];cases s==[112,117,110,99,116]
 case true =>
  simp only[bQ];rw[show((33:Int),(126:Int))=(((33:Nat):Int),((126:Nat):Int))from rfl,show((33:Int),(47:Int))=(((33:Nat):Int),((47:Nat):Int))from rfl,show((58:Int),(64:Int))=(((58:Nat):Int),((64:Nat):Int))from rfl,show((91:Int),(96:Int))=(((91:Nat):Int),((96:Nat):Int))from rfl,show((123:Int),(126:Int))=(((123:Nat):Int),((126:Nat):Int))from rfl];rw[R 33 47 (by omega) (by omega),R 58 64 (by omega) (by omega),R 91 96 (by omega) (by omega),R 123 126 (by omega) (by omega),R2 33 126 (by omega) (by omega)];have:=O [dA 33 47,dA 58 64,dA 91 96,dA 123 126] (by decide);simp only[List.map]at this;simp only[aK];rw[this,zMe hn];exact kX (by decide +kernel) _ _ rfl rfl
 simp only[aZ,cond_false];exact⟨by rw[rX],λ_=>false,by rw[Dq]⟩
end Go.Dec
