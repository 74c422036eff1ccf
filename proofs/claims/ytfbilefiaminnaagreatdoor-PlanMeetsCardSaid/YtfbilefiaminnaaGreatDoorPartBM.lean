/- Part of a proof over this seat: a library of my own, and what it says of this seat. No statement is proved here. -/
import Derived.Test.YtfbilefiaminnaaGreatDoorPartAM
import Derived.Test.YtfbilefiaminnaaGreatDoorPartBK
namespace Go.Dec
theorem aM{ρ:Type}{b:Bool}(h:b=true)(x:Option ρ):chk b x=x:=by subst h;rfl
theorem bC{ρ:Type}{b:Bool}(h:b=true)(x y:Option ρ):br b x y=x:=by subst h;rfl
theorem aO{ρ:Type}{b:Bool}(h:b=false)(x y:Option ρ):br b x y=y:=by subst h;rfl
@[simp] theorem Uy {α γ ρ:Type}(x:α) (k:α->Option ρ) (k':γ->Option ρ):ob2 (some (.inl x)) k k'=k x:=rfl
@[simp] theorem oK {α γ ρ:Type}(x:γ) (k:α->Option ρ) (k':γ->Option ρ):ob2 (some (.inr x)) k k'=k' x:=rfl
theorem zJg{ρ α:Type}(f:α->Option ρ)(x:α):jn f x=f x:=rfl
theorem zJh {ρ α : Type} {B : (α -> Option ρ) -> α -> Option ρ} (st : Nat -> α) {N : Nat} {r : Option ρ}
    (h1 : ∀ i, i < N -> ∀ g, B g (st i) = g (st (i + 1))) (h2 : ∀ g, B g (st N) = r) : ∀ k i n, i + k = N -> k < n -> fix B n (st i) = r := by
  intro k;induction k with
  | zero => intro i n hi hn; rw [lT hn]; have : i = N := by omega
            subst this; exact h2 _
  | succ k ih => intro i n hi hn; rw [lT (by omega), h1 i (by omega)]; exact ih (i + 1) (n - 1) (by omega) (by omega)
theorem yGx {ρ α : Type} {B : (α -> Option ρ) -> α -> Option ρ} (st : Nat -> α) {lo N : Nat} {r : Option ρ}
    (h1 : ∀ i, lo <= i -> i < N -> ∀ g, B g (st i) = g (st (i + 1))) (h2 : ∀ g, B g (st N) = r) : ∀ k i n, i + k = N -> lo <= i -> k < n -> fix B n (st i) = r := by
  intro k;induction k with
  | zero => intro i n hi hl hn; rw [lT hn]; have : i = N := by omega
            subst this; exact h2 _
  | succ k ih => intro i n hi hl hn; rw [lT (by omega), h1 i hl (by omega)]; exact ih (i + 1) (n - 1) (by omega) (by omega) (by omega)
theorem zRm{f:Nat->Bool}{n:Nat}(h:(List.range n).all f=true){i:Nat}(hi:i<n):f i=true:=by
 rw[List.all_eq_true]at h;exact h i (by simpa using hi)
def bn:(Nat->Bool)->Nat->Nat | _,0=>0 | f,k+1=>(f 0).toNat+2*bn (fun i=>f (i+1)) k
theorem yLk:∀ (k:Nat) (f:Nat->Bool) (j:Nat),(bn f k).testBit j=(decide (j<k)&&f j)
 |0,f,j=>by simp[bn]
 |k+1,f,j=>by
  unfold bn;cases j with
  |zero=>simp;cases f 0<;>simp<;>omega
  |succ j =>
   rw[Nat.testBit_succ];have h:((f 0).toNat+2*bn (λi=>f (i+1)) k) / 2=bn (λi=>f (i+1)) k:=by cases f 0<;>simp<;>omega
   rw[h,yLk k];simp
theorem yVc:∀ (k:Nat) (f:Nat->Bool),bn f k<2 ^ k
 |0,f=>by simp[bn]
 |k+1,f=>by
  have:=yVc k (λi=>f (i+1));unfold bn;cases f 0<;>simp[Nat.pow_succ]<;>omega
theorem yCw:∀ (k:Nat) {f g:Nat->Bool},(∀ j,j<k->f j=g j)->bn f k=bn g k
 |0,f,g,h=>rfl
 |k+1,f,g,h=>by
  unfold bn;rw[h 0 (by omega),yCw k (λj hj=>h (j+1) (by omega))]
theorem xCw{x k:Nat}{f:Nat->Bool}(hx:x<2 ^ k)(h:∀ j,j<k->x.testBit j=f j):x=bn f k:=by
 apply Nat.eq_of_testBit_eq;intro j;rw[yLk];by_cases hj:j<k
 ·simp[hj,h j hj]
 ·simp only[hj,decide_false,Bool.false_and];exact Nat.testBit_lt_two_pow (Nat.lt_of_lt_of_le hx (Nat.pow_le_pow_right (by omega) (by omega)))
def zEz (p:Nat->Bool) (k:Nat):Nat:=bn (fun j=>p (64*k+j)) 64
def word (p:Nat->Bool) (k:Nat):Int:=(zEz p k:Nat)
def wd (p:Nat->Bool):List Int:=[word p 0,word p 1,word p 2,word p 3]
def bx (p:Nat->Bool):List Bool:=(List.range 256).map p
theorem Ep(p:Nat->Bool)(k:Nat):zEz p k<2 ^ 64:=yVc _ _
theorem zFa(p:Nat->Bool)(k j:Nat):(zEz p k).testBit j=(decide (j<64)&&p (64*k+j)):=yLk _ _ _
theorem zOk{x k:Nat}{p:Nat->Bool}(hx:x<2 ^ 64)(h:∀ j,j<64->x.testBit j=p (64*k+j)):x=zEz p k:=xCw hx h
theorem Mv{p q:Nat->Bool}{k:Nat}(h:∀ i,64*k<=i->i<64*k+64->p i=q i):word p k=word q k:=by
 unfold word zEz;rw[yCw 64 (λj hj=>h (64*k+j) (by omega) (by omega))]
theorem Jr{p q:Nat->Bool}(h:∀ i,i<256->p i=q i):wd p=wd q:=by
 unfold wd;rw[Mv (λi _ _=>h i (by omega)),Mv (k:=1) (λi _ _=>h i (by omega)),Mv (k:=2) (λi _ _=>h i (by omega)),Mv (k:=3) (λi _ _=>h i (by omega))]
theorem yQ{p q:Nat->Bool}(h:∀ i,i<256->p i=q i):bx p=bx q:=by
 unfold bx;apply List.map_congr_left;intro i hi;exact h i (by simpa using hi)
theorem word_inj{p q:Nat->Bool}{k:Nat}(h:word p k=word q k){i:Nat}(h1:64*k<=i)(h2:i<64*k+64):p i=q i:=by
 have h:zEz p k=zEz q k:=by unfold word at h;omega
 have:=congrArg (λx=>x.testBit (i-64*k)) h;simp only[zFa]at this;rw[show 64*k+(i-64*k)=i by omega]at this;have h3:i-64*k<64:=by omega
 simpa [h3]using this
theorem xAs{p q:Nat->Bool}(h:wd p=wd q){i:Nat}(hi:i<256):p i=q i:=by
 simp only[wd,aJ,and_true]at h;obtain⟨h0,h1,h2,h3⟩:=h;by_cases a:i<64
 ·exact word_inj h0 (by omega) (by omega)
 ·by_cases b:i<128
  ·exact word_inj h1 (by omega) (by omega)
  ·by_cases c:i<192
   ·exact word_inj h2 (by omega) (by omega)
   ·exact word_inj h3 (by omega) (by omega)
theorem zRn{p:Nat->Bool}{i:Nat}(d:Bool)(hi:i<256):(bx p).getD i d=p i:=by
 simp[bx,List.getD_eq_getElem?_getD,hi]
theorem zCu{p:Nat->Bool}{i:Nat}(b:Bool):(bx p).set i b=bx (λj=>if j=i then b else p j):=by
 apply List.ext_getElem?;intro j;by_cases hj:j<256
 ·simp only[bx,List.getElem?_set,List.length_map,List.length_range,List.getElem?_map];by_cases e:i=j
  ·subst e;simp[hj]
  ·simp[e,Ne.symm e,hj]
 ·simp only[bx,List.getElem?_set,List.length_map,List.length_range,List.getElem?_map];simp[hj];omega
theorem wW:wd (λ_=>false)=[0,0,0,0]:=by decide +kernel
theorem zKt:bx (λ_=>false)=List.replicate 256 false:=by decide +kernel
theorem wrapN{x:Nat}(h:x<2 ^ 64):IntKind.u64.wrap ((x:Nat):Int)=x:=IntWalk.u64_in _ (by omega)
theorem bvN{x:Nat}(h:x<2 ^ 64):(BitVec.ofInt 64 ((x:Nat):Int)).toNat=x:=by
 rw[BitVec.toNat_ofInt];omega
theorem ior{a b:Nat}(ha:a<2 ^ 64)(hb:b<2 ^ 64):gG .u64 .or (a:Int) (b:Int)=((a ||| b:Nat):Int):=by
 show IntKind.u64.wrap ((BitVec.ofInt 64 (a:Int) ||| BitVec.ofInt 64 (b:Int)).toNat:Int)=_;rw[BitVec.toNat_or,bvN ha,bvN hb];exact wrapN (Nat.or_lt_two_pow ha hb)
theorem xEt{a b:Nat}(ha:a<2 ^ 64)(hb:b<2 ^ 64):gG .u64 .xor (a:Int) (b:Int)=((a ^^^ b:Nat):Int):=by
 show IntKind.u64.wrap ((BitVec.ofInt 64 (a:Int) ^^^ BitVec.ofInt 64 (b:Int)).toNat:Int)=_;rw[BitVec.toNat_xor,bvN ha,bvN hb];exact wrapN (Nat.xor_lt_two_pow ha hb)
theorem yXg(p q:Nat->Bool)(k:Nat):gG .u64 .or (word p k) (word q k)=word (λi=>p i||q i) k:=by
 unfold word;rw[ior (Ep _ _) (Ep _ _),zOk (p:=λi=>p i||q i) (Nat.or_lt_two_pow (Ep p k) (Ep q k))];intro j hj;simp[zFa,hj]
theorem yXh(j:Nat):(18446744073709551615:Nat).testBit j=decide (j<64):=by
 have:=Nat.testBit_two_pow_sub_one 64 j;simpa using this
theorem yTa(p:Nat->Bool)(k:Nat):gG .u64 .xor 18446744073709551615 (word p k)=word (λi=>!p i) k:=by
 unfold word;rw[show(18446744073709551615:Int)=((18446744073709551615:Nat):Int)from rfl];rw[xEt (by omega) (Ep _ _),zOk (p:=λi=>!p i) (Nat.xor_lt_two_pow (by omega) (Ep p k))];intro j hj;simp[Nat.testBit_xor,yXh,zFa,hj]
theorem yOs(p:Nat->Bool){i:Nat}(hi:i<256):(wd p).set (i / 64) (gG .u64 .or ((wd p).getD (i / 64) 0) (((2 ^ (i % 64):Nat)):Int))=wd (λj=>p j||decide (j=i)):=by
 have hb:2 ^ (i % 64)<2 ^ 64:=Nat.pow_lt_pow_right (by omega) (by omega);have hw:∀ k,k=i / 64->gG .u64 .or (word p k) (((2 ^ (i % 64):Nat)):Int)=word (λj=>p j||decide (j=i)) k:=by
  intro k hk;unfold word;rw[ior (Ep _ _) hb,zOk (p:=λj=>p j||decide (j=i)) (Nat.or_lt_two_pow (Ep p k) hb)];intro j hj;simp only[Nat.testBit_or,zFa,Nat.testBit_two_pow,hj,decide_true,Bool.true_and];congr 1;apply decide_eq_decide.2;omega
 have ho:∀ k,k≠i / 64->word p k=word (λj=>p j||decide (j=i)) k:=by
  intro k hk;apply Mv;intro j h1 h2;have:j≠i:=by omega
  simp[this]
 have hk:i / 64=0\/i / 64=1\/i / 64=2\/i / 64=3:=by omega
 rcases hk with h|h|h|h<;>rw[h]<;>simp only[wd,List.getD_cons_zero,List.getD_cons_succ,List.set_cons_zero,List.set_cons_succ]
 ·rw[hw 0 h.symm,ho 1 (by omega),ho 2 (by omega),ho 3 (by omega)]
 ·rw[hw 1 h.symm,ho 0 (by omega),ho 2 (by omega),ho 3 (by omega)]
 ·rw[hw 2 h.symm,ho 0 (by omega),ho 1 (by omega),ho 3 (by omega)]
 ·rw[hw 3 h.symm,ho 0 (by omega),ho 1 (by omega),ho 2 (by omega)]
theorem yOt:((List.range 256).all λi=>decide (Ca .i64 (i:Int) 6=((i / 64:Nat):Int))&&decide (zGm .u64 1 (gG .i64 .and (i:Int) 63)=((2 ^ (i % 64):Nat):Int))&&decide (0<=gG .i64 .and (i:Int) 63)
 && decide (Ca .u8 (i:Int) 6=((i / 64:Nat):Int))&&decide (zGm .u64 1 (gG .u8 .and (i:Int) 63)=((2 ^ (i % 64):Nat):Int))&&decide (0<=gG .u8 .and (i:Int) 63))=true:=by decide +kernel
theorem xEu{i:Nat}(hi:i<256):Ca .i64 (i:Int) 6=((i / 64:Nat):Int)/\zGm .u64 1 (gG .i64 .and (i:Int) 63)=((2 ^ (i % 64):Nat):Int)/\0<=gG .i64 .and (i:Int) 63:=by
 have:=zRm yOt hi;simp only[aD,decide_eq_true_eq]at this;exact⟨this.1.1.1.1.1,this.1.1.1.1.2,this.1.1.1.2⟩
theorem xEv{i:Nat}(hi:i<256):Ca .u8 (i:Int) 6=((i / 64:Nat):Int)/\zGm .u64 1 (gG .u8 .and (i:Int) 63)=((2 ^ (i % 64):Nat):Int)/\0<=gG .u8 .and (i:Int) 63:=by
 have:=zRm yOt hi;simp only[aD,decide_eq_true_eq]at this;exact⟨this.1.1.2,this.1.2,this.2⟩
theorem yCx:Ty.dflt (.int .u64)=(0:Int):=rfl
def dI (a b:Nat):Nat->Bool:=fun i=>decide (a<=i)&&decide (i<=b)
theorem yGy{p q:Nat->Bool}(h:∀ i,i<256->p i=q i):some (wd p)=some (wd q):=by rw[Jr h]
theorem zUc{p q:Nat->Bool}(h:∀ i,i<256->p i=q i):some (bx p)=some (bx q):=by rw[yQ h]
theorem Mw{n a b:Nat}(hn:300<=n)(ha:a<256)(hb:b<256):dW n ((a:Int),(b:Int))=some (wd (dI a b)):=by
 unfold dW;simp only;rw[bI (by omega) (by omega)];by_cases hab:a<=b
 ·have:=yGx (lo:=a) (B:=xA n) (r:=some (wd (dI a b))) (N:=b+1) (λi=>((b:Int),(i:Int),wd (λj=>decide (a<=j)&&decide (j<i)),()))
   (by
    intro i hlo hi g;have hi2:i<256:=by omega
    obtain⟨s1,s2,s3⟩:=xEu hi2;rw[xA];simp only;have hc:i<=b:=by omega
    rw[bI (by omega) (by omega),s1,s2];rw[bC (by simp;omega),aM (by decide),aM (dM (by omega) (by omega)),aM (by simp;omega),aM (by simpa using s3),aM (dM (by omega) (by omega)),aM (by simp;omega)];rw[bI (by omega) (by omega),yCx,Int.toNat_natCast,yOs _ hi2];have:wd (λj=>(decide (a<=j)&&decide (j<i))||decide (j=i))=wd (λj=>decide (a<=j)&&decide (j<i+1)):=by
     refine Jr λj hj=>?_
     rw[Bool.eq_iff_iff];simp;omega
    rw[this];rfl)
   (by
    intro g;rw[xA];simp only;rw[aO (by rw[bI (by omega) (by omega)];simp;omega)];refine yGy λi hi=>?_
    simp only[dI];rw[Bool.eq_iff_iff];simp;omega)
   (b+1-a) a n (by omega) (by omega) (by omega)
  have e:wd (λj=>decide (a<=j)&&decide (j<a))=[0,0,0,0]:=by
   rw[<- wW];refine Jr λj hj=>?_
   rw[Bool.eq_iff_iff];simp
  simp only[e]at this;exact this
 ·rw[lT (by omega),xA];simp only;rw[aO (by rw[bI (by omega) (by omega)];simp;omega),<- wW];refine yGy λj hj=>?_
  simp only[dI];rw[Bool.eq_iff_iff];simp;omega
theorem zRo{n:Nat}(hn:5<=n)(p:Nat->Bool):Vf n (wd p)=some (wd λi=>!p i):=by
 obtain⟨m,rfl⟩:∃ m,n=m+5:=⟨n-5,by omega⟩;have h:=yTa p;have e:wd (λi=>!p i)=[gG .u64 .xor 18446744073709551615 (word p 0),gG .u64 .xor 18446744073709551615 (word p 1),gG .u64 .xor 18446744073709551615 (word p 2),gG .u64 .xor 18446744073709551615 (word p 3)]:=by rw[h,h,h,h];rfl
 rw[e];rfl
theorem yLl{n:Nat}(hn:5<=n)(g0:List (List Int) × Int × Int × List Int × Unit->Option (List Int))(l:List (List Int))(c i:Int)(p q:Nat->Bool):fix (zHo n g0) n (l,c,i,0,wd p,wd q,())=g0 (l,c,IntKind.wrap .i64 (i+1),wd (λi=>p i||q i),()):=by
 obtain⟨m,rfl⟩:∃ m,n=m+5:=⟨n-5,by omega⟩;have h:=yXg p q;have e:wd (λi=>p i||q i)=[gG .u64 .or (word p 0) (word q 0),gG .u64 .or (word p 1) (word q 1),gG .u64 .or (word p 2) (word q 2),gG .u64 .or (word p 3) (word q 3)]:=by rw[h,h,h,h];rfl
 rw[e];rfl
theorem zVr{n:Nat}(ps:List (Nat->Bool))(hn:5<=n)(hl:ps.length<n)(hm:ps.length<1000):vD n (ps.map wd)=some (wd λi=>ps.any (· i)):=by
 unfold vD;simp only[List.length_map];have:=zJh (B:=Lf n) (r:=some (wd λi=>ps.any (· i))) (N:=ps.length) (λi=>(ps.map wd,(ps.length:Int),(i:Int),wd (λj=>(ps.take i).any (· j)),()))
  (by
   intro i hi g;rw[Lf];simp only;rw[bC (by simp;omega),aM (dM (by omega) (by simp;omega))];have hg:aV (Ty.dflt (.arr 4 (.int .u64))) (ps.map wd) (i:Int)=wd ps[i]:=by
    simp[aV,List.getD_eq_getElem?_getD,hi]
   rw[hg,yLl hn,bI (by omega) (by omega)];have hw:wd (λj=>(ps.take i).any (· j)||ps[i] j)=wd (λj=>(ps.take (i+1)).any (· j)):=by
    refine Jr λj hj=>?_
    rw[List.take_succ_eq_append_getElem hi,List.any_append];simp
   rw[hw];rfl)
  (by
   intro g;rw[Lf];simp only;rw[aO (by simp)];simp)
  ps.length 0 n (by omega) hl
 simpa [wW]using this
def ofP (s:List UInt8):Nat->Bool:=fun i=>s.any fun c=>decide (c.toNat = i)
theorem Kk{α:Type}{d:α}{s:List α}{i:Nat}(h:i<s.length):aV d s (i:Int)=s[i]:=by
 simp[aV,List.getD_eq_getElem?_getD,h]
theorem yCy{s:List UInt8}{i:Nat}(h:i<s.length):ofP (s.take (i+1))=λj=>ofP (s.take i) j||decide (j=s[i].toNat):=by
 funext j;simp only[ofP];rw[List.take_succ_eq_append_getElem h,List.any_append];simp[eq_comm]
theorem zJi{n:Nat}(s:List UInt8)(hl:s.length<n)(hm:s.length<100000):xB n s=some (wd (ofP s)):=by
 unfold xB;simp only;have:=zJh (B:=Lg n) (r:=some (wd (ofP s))) (N:=s.length) (λi=>(s,(s.length:Int),(i:Int),wd (ofP (s.take i)),()))
  (by
   intro i hi g;have hc:s[i].toNat<256:=s[i].toNat_lt;obtain⟨s1,s2,s3⟩:=xEv hc;rw[Lg];simp only;rw[Kk hi,s1,s2];rw[bC (by simp;omega),aM (Hl hi),aM (by decide),aM (dM (by omega) (by omega)),aM (by simp;omega),aM (Hl hi),aM (by simpa using s3),aM (dM (by omega) (by omega)),aM (by simp;omega)];rw[bI (by omega) (by omega),yCx,Int.toNat_natCast,yOs _ hc,yCy hi];rfl)
  (by
   intro g;rw[Lg];simp only;rw[aO (by simp)];simp)
  s.length 0 n (by omega) hl
 have e:wd (ofP (s.take 0))=[0,0,0,0]:=by rw[<- wW];rfl
 simp only[e]at this;simpa using this
theorem zUd{n a b:Nat}(hn:300<=n)(ha:a<256)(hb:b<256):iY n ((a:Int),(b:Int))=some (bx (dI a b)):=by
 unfold iY;simp only;rw[bI (by omega) (by omega)];by_cases hab:a<=b
 ·have:=yGx (lo:=a) (B:=tT n) (r:=some (bx (dI a b))) (N:=b+1) (λi=>((b:Int),(i:Int),List.replicate 256 false,bx (λj=>decide (a<=j)&&decide (j<i)),()))
   (by
    intro i hlo hi g;have hi2:i<256:=by omega
    rw[tT];simp only;have hc:i<=b:=by omega
    rw[bI (by omega) (by omega)];rw[bC (by simp;omega),aM (dM (by omega) (by omega)),aM (by simp;omega)];rw[bI (by omega) (by omega),Int.toNat_natCast,zCu];have:bx (λj=>if j=i then true else(decide (a<=j)&&decide (j<i)))=bx (λj=>decide (a<=j)&&decide (j<i+1)):=by
     refine yQ λj hj=>?_
     rw[Bool.eq_iff_iff];split<;>simp<;>omega
    rw[this];rfl)
   (by
    intro g;rw[tT];simp only;rw[aO (by rw[bI (by omega) (by omega)];simp;omega)];refine zUc λi hi=>?_
    simp only[dI];rw[Bool.eq_iff_iff];simp;omega)
   (b+1-a) a n (by omega) (by omega) (by omega)
  have e:bx (λj=>decide (a<=j)&&decide (j<a))=List.replicate 256 false:=by
   rw[<- zKt];refine yQ λj hj=>?_
   rw[Bool.eq_iff_iff];simp
  simp only[e]at this;exact this
 ·rw[lT (by omega),tT];simp only;rw[aO (by rw[bI (by omega) (by omega)];simp;omega),<- zKt];refine zUc λj hj=>?_
  simp only[dI];rw[Bool.eq_iff_iff];simp;omega
theorem yFf{n:Nat}(hn:300<=n)(p q:Nat->Bool):Ab n (bx p,bx q)=some (bx λi=>p i||q i):=by
 unfold Ab;simp only;have:=zJh (B:=Ga n) (r:=some (bx λi=>p i||q i)) (N:=256) (λi=>((i:Int),bx (λj=>if j<i then p j||q j else p j),bx q,List.replicate 256 false,()))
  (by
   intro i hi g;have key:∀ b,b=(p i||q i)->(g (((i+1:Nat):Int),bx (λj=>if j=i then b else if j<i then p j||q j else p j),bx q,List.replicate 256 false,())=g (((i+1:Nat):Int),bx (λj=>if j<i+1 then p j||q j else p j),bx q,List.replicate 256 false,())):=by
    intro b hb;have:bx (λj=>if j=i then b else if j<i then p j||q j else p j)=bx (λj=>if j<i+1 then p j||q j else p j):=by
     refine yQ λj hj=>?_
     by_cases e:j=i
     ·subst e;simp[hb]
     ·by_cases e2:j<i
      ·simp[e,e2,Nat.lt_succ_of_lt e2]
      ·simp[e,e2,show ¬ j<i+1 by omega]
    rw[this]
   rw[Ga];simp only;rw[bC (by simp;omega),aM (dM (by omega) (by omega)),aM (by simp;omega),aM (dM (by omega) (by omega)),aM (by simp;omega)];rw[bI (by omega) (by omega),Int.toNat_natCast,zRn _ hi,zRn _ hi,zCu,zCu,show(i:Int)+1=((i+1:Nat):Int)from rfl];simp only[Nat.lt_irrefl,if_false];cases hp:p i
   ·rw[aO rfl,aM (dM (by omega) (by omega)),aM (decide_eq_true hi),aM (dM (by omega) (by omega)),aM (decide_eq_true hi)];rw[key (q i) (by rw[hp];rfl)]
   ·rw[bC rfl];exact key true (by rw[hp];rfl))
  (by
   intro g;rw[Ga];simp only;rw[aO (by simp)];refine zUc λi hi=>?_
   simp[hi])
  256 0 n (by omega) (by omega)
 have e:bx (λj=>if j<0 then p j||q j else p j)=bx p:=yQ λj hj=>by simp
 rw[e]at this;exact this
theorem yFg{n:Nat}(s:List UInt8)(hl:s.length<n)(hm:s.length<100000):Wh n s=some (bx (ofP s)):=by
 unfold Wh;simp only;have:=zJh (B:=Gb n) (r:=some (bx (ofP s))) (N:=s.length) (λi=>(s,(i:Int),List.replicate 256 false,bx (ofP (s.take i)),()))
  (by
   intro i hi g;have hc:s[i].toNat<256:=s[i].toNat_lt;rw[Gb];simp only;rw[Kk hi];rw[bC (by simp;omega),aM (Hl hi),aM (dM (by omega) (by omega)),aM (by simp;omega)];rw[bI (by omega) (by omega),Int.toNat_natCast,zCu,yCy hi];have:bx (λj=>if j=s[i].toNat then true else ofP (s.take i) j)=bx (λj=>ofP (s.take i) j||decide (j=s[i].toNat)):=by
    refine yQ λj hj=>?_
    by_cases e:j=s[i].toNat
    ·rw[if_pos e];simp[e]
    ·rw[if_neg e];simp[e]
   rw[this];rfl)
  (by
   intro g;rw[Gb];simp only;rw[aO (by simp)];simp)
  s.length 0 n (by omega) hl
 have e:bx (ofP (s.take 0))=List.replicate 256 false:=by rw[<- zKt];rfl
 simp only[e]at this;exact this
theorem xAt{p:Nat->Bool}:wd p=[0,0,0,0]<->∀ i,i<256->p i=false:=by
 rw[<- wW];exact⟨λh i hi=>xAs h hi,λh=>Jr h⟩
theorem xEw{p q:Nat->Bool}:Ty.beq (.arr 4 (.int .u64)) (wd p) (wd q)=true<->wd p=wd q:=beq_iff rfl
theorem zRp{n:Nat}(hn:300<=n)(p q:Nat->Bool):fix (tV n) n (0,List.replicate 256 false,bx p,bx q,())=some (bx (λi=>q i&&!p i),true):=by
 have:=zJh (B:=tV n) (r:=some (bx (λi=>q i&&!p i),true)) (N:=256) (λi=>((i:Int),List.replicate 256 false,bx p,bx (λj=>if j<i then q j&&!p j else q j),()))
  (by
   intro i hi g;have key:∀ b,b=(q i&&!p i)->(g (((i+1:Nat):Int),List.replicate 256 false,bx p,bx (λj=>if j=i then b else if j<i then q j&&!p j else q j),())=g (((i+1:Nat):Int),List.replicate 256 false,bx p,bx (λj=>if j<i+1 then q j&&!p j else q j),())):=by
    intro b hb;have:bx (λj=>if j=i then b else if j<i then q j&&!p j else q j)=bx (λj=>if j<i+1 then q j&&!p j else q j):=by
     refine yQ λj hj=>?_
     by_cases e:j=i
     ·subst e;simp[hb]
     ·by_cases e2:j<i
      ·simp[e,e2,Nat.lt_succ_of_lt e2]
      ·simp[e,e2,show ¬ j<i+1 by omega]
    rw[this]
   rw[tV];simp only;rw[bC (by simp;omega),aM (dM (by omega) (by omega)),aM (by simp;omega)];rw[bI (by omega) (by omega),Int.toNat_natCast,zRn _ hi,zRn _ hi,zCu,zCu,show(i:Int)+1=((i+1:Nat):Int)from rfl];simp only[Nat.lt_irrefl,if_false];cases hq:q i
   ·rw[aO rfl,aM (dM (by omega) (by omega)),aM (decide_eq_true hi)];exact key false (by rw[hq];rfl)
   ·rw[bC rfl,aM (dM (by omega) (by omega)),aM (decide_eq_true hi),aM (dM (by omega) (by omega)),aM (decide_eq_true hi)];exact key (!p i) (by rw[hq];rfl))
  (by
   intro g;rw[tV];simp only;rw[aO (by simp)];have e:bx (λj=>if j<256 then q j&&!p j else q j)=bx (λi=>q i&&!p i):=yQ λj hj=>by simp[hj]
   rw[e])
  256 0 n (by omega) (by omega)
 have e:bx (λj=>if j<0 then q j&&!p j else q j)=bx q:=yQ λj hj=>by simp
 rw[e]at this;exact this
def yCz (ps:List (Nat->Bool)):Nat->Bool:=fun i=>ps.any (· i)
def zCv (s:List UInt8):Option (Nat->Bool) :=bif s==[117,112,112,101,114] then some (dI 65 90) else bif s==[108,111,119,101,114] then some (dI 97 122) else bif s==[97,108,112,104,97] then some (yCz [dI 65 90,dI 97 122]) else bif s==[100,105,103,105,116] then some (dI 48 57) else bif s==[97,108,110,117,109] then some (yCz [dI 65 90,dI 97 122,dI 48 57]) else bif s==[120,100,105,103,105,116] then some (yCz [dI 48 57,dI 65 70,dI 97 102]) else bif s==[98,108,97,110,107] then some (ofP [32,9]) else bif s==[115,112,97,99,101] then some (ofP [32,9,10,11,12,13]) else bif s==[99,110,116,114,108] then some (yCz [dI 0 31,ofP [127]]) else bif s==[103,114,97,112,104] then some (dI 33 126) else bif s==[112,114,105,110,116] then some (dI 32 126) else bif s==[112,117,110,99,116] then some (yCz [dI 33 47,dI 58 64,dI 91 96,dI 123 126]) else none
def yGz(o:Option (Nat->Bool))(a:Option (List Int × Bool))(b:Option (List Bool × Bool)):Prop:=match o with
 |some p=>a=some (wd p,true)/\b=some (bx p,true)
 |none=>a=some (wd λ_=>false,false)/\∃ p,b=some (bx p,false)
theorem nI{p q:Nat->Bool}(h:((List.range 256).all λi=>p i==q i)=true)(o:Option (List Int × Bool))(o2:Option (List Bool × Bool))(h1:o=some (wd p,true))(h2:o2=some (bx q,true)):yGz (some p) o o2:=by
 refine⟨h1,?_⟩;rw[h2];have:bx q=bx p:=yQ λi hi=>by have:=zRm h hi;simp at this;exact this.symm
 rw[this]
theorem yLm{n:Nat}(hn:300<=n)(s:List UInt8):yGz (zCv s) (Qq n s) (zLs n s):=by
 have R:∀ a b:Nat,a<256->b<256->dW n ((a:Int),(b:Int))=some (wd (dI a b)):=λa b ha hb=>Mw hn ha hb
 have R2:∀ a b:Nat,a<256->b<256->iY n ((a:Int),(b:Int))=some (bx (dI a b)):=λa b ha hb=>zUd hn ha hb
 have O:∀ ps:List (Nat->Bool),ps.length<10->vD n (ps.map wd)=some (wd λi=>ps.any (· i)):=λps h=>zVr ps (by omega) (by omega) (by omega)
 have O2:=λp q=>yFf hn p q
 have F:∀ s:List UInt8,s.length<10->xB n s=some (wd (ofP s)):=λs h=>zJi s (by omega) (by omega)
 have F2:∀ s:List UInt8,s.length<10->Wh n s=some (bx (ofP s)):=λs h=>yFg s (by omega) (by omega)
 unfold Qq zLs zCv;simp only;rw[show((65:Int),(90:Int))=(((65:Nat):Int),((90:Nat):Int))from rfl,show((97:Int),(122:Int))=(((97:Nat):Int),((122:Nat):Int))from rfl,show((48:Int),(57:Int))=(((48:Nat):Int),((57:Nat):Int))from rfl];rw[R 65 90 (by omega) (by omega),R 97 122 (by omega) (by omega),R 48 57 (by omega) (by omega),R2 65 90 (by omega) (by omega),R2 97 122 (by omega) (by omega),R2 48 57 (by omega) (by omega)];simp only[aN];rw[O2];simp only[aN];rw[O2];simp only[aN];cases s==[117,112,112,101,114]
 case true=>exact nI (by decide +kernel) _ _ rfl rfl
 simp only[bO,cond_false];cases s==[108,111,119,101,114]
 case true=>exact nI (by decide +kernel) _ _ rfl rfl
 simp only[bO,cond_false];cases s==[97,108,112,104,97]
 case true =>
  have:=O [dI 65 90,dI 97 122] (by decide);simp only[List.map]at this;simp only[dO,this,aN];exact nI (by decide +kernel) _ _ rfl rfl
 simp only[bO,cond_false];cases s==[100,105,103,105,116]
 case true=>exact nI (by decide +kernel) _ _ rfl rfl
 simp only[bO,cond_false];cases s==[97,108,110,117,109]
 case true =>
  have:=O [dI 65 90,dI 97 122,dI 48 57] (by decide);simp only[List.map]at this;simp only[dO,this,aN];exact nI (by decide +kernel) _ _ rfl rfl
 simp only[bO,cond_false];cases s==[120,100,105,103,105,116]
 case true =>
  have:=O [dI 48 57,dI 65 70,dI 97 102] (by decide);simp only[List.map]at this;simp only[dO];rw[show((65:Int),(70:Int))=(((65:Nat):Int),((70:Nat):Int))from rfl,show((97:Int),(102:Int))=(((97:Nat):Int),((102:Nat):Int))from rfl];rw[R 65 70 (by omega) (by omega),R 97 102 (by omega) (by omega),R2 65 70 (by omega) (by omega),R2 97 102 (by omega) (by omega)];simp only[aN];rw[O2,this];simp only[aN];rw[O2];exact nI (by decide +kernel) _ _ rfl rfl
 simp only[bO,cond_false];cases s==[98,108,97,110,107]
 case true =>
  simp only[dO];rw[F _ (by decide),F2 _ (by decide)];exact nI (by decide +kernel) _ _ rfl rfl
 simp only[bO,cond_false];cases s==[115,112,97,99,101]
 case true =>
  simp only[dO];rw[show((9:Int),(13:Int))=(((9:Nat):Int),((13:Nat):Int))from rfl];rw[F _ (by decide),F2 _ (by decide),R2 9 13 (by omega) (by omega)];simp only[aN];rw[O2];exact nI (by decide +kernel) _ _ rfl rfl
 simp only[bO,cond_false];cases s==[99,110,116,114,108]
 case true =>
  simp only[dO];rw[show((0:Int),(31:Int))=(((0:Nat):Int),((31:Nat):Int))from rfl,show((127:Int),(127:Int))=(((127:Nat):Int),((127:Nat):Int))from rfl];rw[R 0 31 (by omega) (by omega),R2 0 31 (by omega) (by omega),R2 127 127 (by omega) (by omega),F _ (by decide)];have:=O [dI 0 31,ofP [127]] (by decide);simp only[List.map]at this;simp only[aN];rw[O2,this];exact nI (by decide +kernel) _ _ rfl rfl
 simp only[bO,cond_false];cases s==[103,114,97,112,104]
 case true =>
  simp only[dO];rw[show((33:Int),(126:Int))=(((33:Nat):Int),((126:Nat):Int))from rfl];rw[R 33 126 (by omega) (by omega),R2 33 126 (by omega) (by omega)];exact nI (by decide +kernel) _ _ rfl rfl
 simp only[bO,cond_false];cases s==[112,114,105,110,116]
 case true =>
  simp only[dO];rw[show((32:Int),(126:Int))=(((32:Nat):Int),((126:Nat):Int))from rfl];rw[R 32 126 (by omega) (by omega),R2 32 126 (by omega) (by omega)];exact nI (by decide +kernel) _ _ rfl rfl
 simp only[bO,cond_false];cases s==[112,117,110,99,116]
 case true =>
  simp only[dO];rw[show((33:Int),(126:Int))=(((33:Nat):Int),((126:Nat):Int))from rfl,show((33:Int),(47:Int))=(((33:Nat):Int),((47:Nat):Int))from rfl,show((58:Int),(64:Int))=(((58:Nat):Int),((64:Nat):Int))from rfl,show((91:Int),(96:Int))=(((91:Nat):Int),((96:Nat):Int))from rfl,show((123:Int),(126:Int))=(((123:Nat):Int),((126:Nat):Int))from rfl];rw[R 33 47 (by omega) (by omega),R 58 64 (by omega) (by omega),R 91 96 (by omega) (by omega),R 123 126 (by omega) (by omega),R2 33 126 (by omega) (by omega)];have:=O [dI 33 47,dI 58 64,dI 91 96,dI 123 126] (by decide);simp only[List.map]at this;simp only[aN];rw[this,zRp hn];exact nI (by decide +kernel) _ _ rfl rfl
 simp only[bO,cond_false];exact⟨by rw[wW],λ_=>false,by rw[zKt]⟩
end Go.Dec
