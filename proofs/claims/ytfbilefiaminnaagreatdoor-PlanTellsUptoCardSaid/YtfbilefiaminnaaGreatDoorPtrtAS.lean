import Derived.Test.YtfbilefiaminnaaGreatDoorPtrtAR
open List renaming length_cons->xI,length_drop->yV,length_nil->qBn,replicate->qAf,length_append->xG,drop_suffix->qFx,suffix_cons->qFy,drop_drop->zT,range->qAr,append_assoc->wE,getD_eq_getElem?_getD->wG,map->qEv,isPrefixOf_iff_prefix->qFz,suffix_refl->qFm,getD->qGb,isPrefixOf->qGd,length_map->qFs,set_cons_zero->qGf,set_cons_succ->qGg,cons_append->qCt,eq_nil_or_concat->qGi,all_eq_true->qFb,getElem?_set->qGj,length_range->qGk,getElem?_map->qBx,getD_cons_succ->qGl,take_succ_eq_append_getElem->qGm,length->qGo,length_take->qAb,drop_zero->qEk,drop_take->qAl,append_nil->vE
open Go.IntKind renaming wrap->qEq
open Bool renaming not_true->qCc,not_false->qFt,eq_iff_iff->qFu,false_and->qFv,true_and->qFw,and_false->qGa,eq_false_iff->qGh,and_true->qEj,false_or->qGp
open Int renaming toNat_natCast->qCg,toNat->qGc
open Nat renaming or_lt_two_pow->qGe,add_assoc->zD,lt_of_lt_of_le->wD,lt_succ_of_lt->qGn,add_zero->qAa,zero_add->yY
namespace Go.Dec
theorem aI{ρ:Type}{b:Bool}(h:b=true)(x:Option ρ):chk b x=x:=by subst h;rfl
theorem bG{ρ:Type}{b:Bool}(h:b=true)(x y:Option ρ):br b x y=x:=by subst h;rfl
theorem aQ{ρ:Type}{b:Bool}(h:b=false)(x y:Option ρ):br b x y=y:=by subst h;rfl
@[simp] theorem Xp {α γ ρ:Type}(x:α) (k:α->Option ρ) (k':γ->Option ρ):ob2 (some (.inl x)) k k'=k x:=rfl
@[simp] theorem oU {α γ ρ:Type}(x:γ) (k:α->Option ρ) (k':γ->Option ρ):ob2 (some (.inr x)) k k'=k' x:=rfl
theorem zNe{ρ α:Type}(f:α->Option ρ)(x:α):jn f x=f x:=rfl
theorem zAs {ρ α : Type} {B : (α -> Option ρ) -> α -> Option ρ} (st : Nat -> α) {N : Nat} {r : Option ρ}
    (h1 : ∀ i, i < N -> ∀ g, B g (st i) = g (st (i + 1))) (h2 : ∀ g, B g (st N) = r) : ∀ k i n, i + k = N -> k < n -> fix B n (st i) = r := by
  intro k;induction k with
  | zero => intro i n hi hn; rw [lZ hn]; have : i = N := by omega
            subst this; exact h2 _
  | succ k ih => intro i n hi hn; rw [lZ (by omega), h1 i (by omega)]; exact ih (i + 1) (n - 1) (by omega) (by omega)
theorem yMl {ρ α : Type} {B : (α -> Option ρ) -> α -> Option ρ} (st : Nat -> α) {lo N : Nat} {r : Option ρ}
    (h1 : ∀ i, lo <= i -> i < N -> ∀ g, B g (st i) = g (st (i + 1))) (h2 : ∀ g, B g (st N) = r) : ∀ k i n, i + k = N -> lo <= i -> k < n -> fix B n (st i) = r := by
  intro k;induction k with
  | zero => intro i n hi hl hn; rw [lZ hn]; have : i = N := by omega
            subst this; exact h2 _
  | succ k ih => intro i n hi hl hn; rw [lZ (by omega), h1 i hl (by omega)]; exact ih (i + 1) (n - 1) (by omega) (by omega) (by omega)
theorem zXb{f:Nat->Bool}{n:Nat}(h:(qAr n).all f=true){i:Nat}(hi:i<n):f i=true:=by
 rw[qFb]at h;exact h i (by simpa using hi)
def bn:(Nat->Bool)->Nat->Nat | _,0=>0 | f,k+1=>(f 0).toNat+2*bn (fun i=>f (i+1)) k
theorem yRd:∀ (k:Nat) (f:Nat->Bool) (j:Nat),(bn f k).testBit j=(decide (j<k)&&f j)
 |0,f,j=>by simp[bn]
 |k+1,f,j=>by
  unfold bn;cases j with
  |zero=>simp;cases f 0<;>simp<;>omega
  |succ j =>
   rw[Nat.testBit_succ];have h:((f 0).toNat+2*bn (λi=>f (i+1)) k) / 2=bn (λi=>f (i+1)) k:=by cases f 0<;>simp<;>omega
   rw[h,yRd k];simp
theorem yRe:∀ (k:Nat) (f:Nat->Bool),bn f k<2 ^ k
 |0,f=>by simp[bn]
 |k+1,f=>by
  have:=yRe k (λi=>f (i+1));unfold bn;cases f 0<;>simp[Nat.pow_succ]<;>omega
theorem zTl:∀ (k:Nat) {f g:Nat->Bool},(∀ j,j<k->f j=g j)->bn f k=bn g k
 |0,f,g,h=>rfl
 |k+1,f,g,h=>by
  unfold bn;rw[h 0 (by omega),zTl k (λj hj=>h (j+1) (by omega))]
theorem xJw{x k:Nat}{f:Nat->Bool}(hx:x<2 ^ k)(h:∀ j,j<k->x.testBit j=f j):x=bn f k:=by
 apply Nat.eq_of_testBit_eq;intro j;rw[yRd];by_cases hj:j<k
 ·simp[hj,h j hj]
 ·simp only[hj,decide_false,qFv];exact Nat.testBit_lt_two_pow (wD hx (Nat.pow_le_pow_right (by omega) (by omega)))
def zCq (p:Nat->Bool) (k:Nat):Nat:=bn (fun j=>p (64*k+j)) 64
def word (p:Nat->Bool) (k:Nat):Int:=(zCq p k:Nat)
def wd (p:Nat->Bool):List Int:=[word p 0,word p 1,word p 2,word p 3]
def bx (p:Nat->Bool):List Bool:=(qAr 256).map p
theorem Gm(p:Nat->Bool)(k:Nat):zCq p k<2 ^ 64:=yRe _ _
theorem zIh(p:Nat->Bool)(k j:Nat):(zCq p k).testBit j=(decide (j<64)&&p (64*k+j)):=yRd _ _ _
theorem zTm{x k:Nat}{p:Nat->Bool}(hx:x<2 ^ 64)(h:∀ j,j<64->x.testBit j=p (64*k+j)):x=zCq p k:=xJw hx h
theorem Pf{p q:Nat->Bool}{k:Nat}(h:∀ i,64*k<=i->i<64*k+64->p i=q i):word p k=word q k:=by
 unfold word zCq;rw[zTl 64 (λj hj=>h (64*k+j) (by omega) (by omega))]
theorem Li{p q:Nat->Bool}(h:∀ i,i<256->p i=q i):wd p=wd q:=by
 unfold wd;rw[Pf (λi _ _=>h i (by omega)),Pf (k:=1) (λi _ _=>h i (by omega)),Pf (k:=2) (λi _ _=>h i (by omega)),Pf (k:=3) (λi _ _=>h i (by omega))]
theorem uI{p q:Nat->Bool}(h:∀ i,i<256->p i=q i):bx p=bx q:=by
 unfold bx;apply List.map_congr_left;intro i hi;exact h i (by simpa using hi)
theorem word_inj{p q:Nat->Bool}{k:Nat}(h:word p k=word q k){i:Nat}(h1:64*k<=i)(h2:i<64*k+64):p i=q i:=by
 have h:zCq p k=zCq q k:=by unfold word at h;omega
 have:=congrArg (λx=>x.testBit (i-64*k)) h;simp only[zIh]at this;rw[show 64*k+(i-64*k)=i by omega]at this;have h3:i-64*k<64:=by omega
 simpa [h3]using this
theorem xHl{p q:Nat->Bool}(h:wd p=wd q){i:Nat}(hi:i<256):p i=q i:=by
 simp only[wd,aL,and_true]at h;obtain⟨h0,h1,h2,h3⟩:=h;by_cases a:i<64
 ·exact word_inj h0 (by omega) (by omega)
 ·by_cases b:i<128
  ·exact word_inj h1 (by omega) (by omega)
  ·by_cases c:i<192
   ·exact word_inj h2 (by omega) (by omega)
   ·exact word_inj h3 (by omega) (by omega)
theorem zNf{p:Nat->Bool}{i:Nat}(d:Bool)(hi:i<256):(bx p).getD i d=p i:=by
 simp[bx,wG,hi]
theorem zAt{p:Nat->Bool}{i:Nat}(b:Bool):(bx p).set i b=bx (λj=>if j=i then b else p j):=by
 apply List.ext_getElem?;intro j;by_cases hj:j<256
 ·simp only[bx,qGj,qFs,qGk,qBx];by_cases e:i=j
  ·subst e;simp[hj]
  ·simp[e,Ne.symm e,hj]
 ·simp only[bx,qGj,qFs,qGk,qBx];simp[hj];omega
theorem xQ:wd (λ_=>false)=[0,0,0,0]:=by decide +kernel
theorem zGa:bx (λ_=>false)=qAf 256 false:=by decide +kernel
theorem wrapN{x:Nat}(h:x<2 ^ 64):IntKind.u64.wrap ((x:Nat):Int)=x:=IntWalk.u64_in _ (by omega)
theorem bvN{x:Nat}(h:x<2 ^ 64):(BitVec.ofInt 64 ((x:Nat):Int)).toNat=x:=by
 rw[BitVec.toNat_ofInt];omega
theorem ior{a b:Nat}(ha:a<2 ^ 64)(hb:b<2 ^ 64):gJ .u64 .or (a:Int) (b:Int)=((a ||| b:Nat):Int):=by
 show IntKind.u64.wrap ((BitVec.ofInt 64 (a:Int) ||| BitVec.ofInt 64 (b:Int)).toNat:Int)=_;rw[BitVec.toNat_or,bvN ha,bvN hb];exact wrapN (qGe ha hb)
theorem xLv{a b:Nat}(ha:a<2 ^ 64)(hb:b<2 ^ 64):gJ .u64 .xor (a:Int) (b:Int)=((a ^^^ b:Nat):Int):=by
 show IntKind.u64.wrap ((BitVec.ofInt 64 (a:Int) ^^^ BitVec.ofInt 64 (b:Int)).toNat:Int)=_;rw[BitVec.toNat_xor,bvN ha,bvN hb];exact wrapN (Nat.xor_lt_two_pow ha hb)
theorem xDo(p q:Nat->Bool)(k:Nat):gJ .u64 .or (word p k) (word q k)=word (λi=>p i||q i) k:=by
 unfold word;rw[ior (Gm _ _) (Gm _ _),zTm (p:=λi=>p i||q i) (qGe (Gm p k) (Gm q k))];intro j hj;simp[zIh,hj]
theorem xDp(j:Nat):(18446744073709551615:Nat).testBit j=decide (j<64):=by
 have:=Nat.testBit_two_pow_sub_one 64 j;simpa using this
theorem yZg(p:Nat->Bool)(k:Nat):gJ .u64 .xor 18446744073709551615 (word p k)=word (λi=>!p i) k:=by
 unfold word;rw[show(18446744073709551615:Int)=((18446744073709551615:Nat):Int)from rfl];rw[xLv (by omega) (Gm _ _),zTm (p:=λi=>!p i) (Nat.xor_lt_two_pow (by omega) (Gm p k))];intro j hj;simp[Nat.testBit_xor,xDp,zIh,hj]
theorem yUt(p:Nat->Bool){i:Nat}(hi:i<256):(wd p).set (i / 64) (gJ .u64 .or ((wd p).getD (i / 64) 0) (((2 ^ (i % 64):Nat)):Int))=wd (λj=>p j||decide (j=i)):=by
 have hb:2 ^ (i % 64)<2 ^ 64:=Nat.pow_lt_pow_right (by omega) (by omega);have hw:∀ k,k=i / 64->gJ .u64 .or (word p k) (((2 ^ (i % 64):Nat)):Int)=word (λj=>p j||decide (j=i)) k:=by
  intro k hk;unfold word;rw[ior (Gm _ _) hb,zTm (p:=λj=>p j||decide (j=i)) (qGe (Gm p k) hb)];intro j hj;simp only[Nat.testBit_or,zIh,Nat.testBit_two_pow,hj,decide_true,qFw];congr 1;apply decide_eq_decide.2;omega
 have ho:∀ k,k≠i / 64->word p k=word (λj=>p j||decide (j=i)) k:=by
  intro k hk;apply Pf;intro j h1 h2;have:j≠i:=by omega
  simp[this]
 have hk:i / 64=0\/i / 64=1\/i / 64=2\/i / 64=3:=by omega
 rcases hk with h|h|h|h<;>rw[h]<;>simp only[wd,List.getD_cons_zero,qGl,qGf,qGg]
 ·rw[hw 0 h.symm,ho 1 (by omega),ho 2 (by omega),ho 3 (by omega)]
 ·rw[hw 1 h.symm,ho 0 (by omega),ho 2 (by omega),ho 3 (by omega)]
 ·rw[hw 2 h.symm,ho 0 (by omega),ho 1 (by omega),ho 3 (by omega)]
 ·rw[hw 3 h.symm,ho 0 (by omega),ho 1 (by omega),ho 2 (by omega)]
theorem yUu:((qAr 256).all λi=>decide (Di .i64 (i:Int) 6=((i / 64:Nat):Int))&&decide (zKf .u64 1 (gJ .i64 .and (i:Int) 63)=((2 ^ (i % 64):Nat):Int))&&decide (0<=gJ .i64 .and (i:Int) 63)
 && decide (Di .u8 (i:Int) 6=((i / 64:Nat):Int))&&decide (zKf .u64 1 (gJ .u8 .and (i:Int) 63)=((2 ^ (i % 64):Nat):Int))&&decide (0<=gJ .u8 .and (i:Int) 63))=true:=by decide +kernel
theorem xLw{i:Nat}(hi:i<256):Di .i64 (i:Int) 6=((i / 64:Nat):Int)/\zKf .u64 1 (gJ .i64 .and (i:Int) 63)=((2 ^ (i % 64):Nat):Int)/\0<=gJ .i64 .and (i:Int) 63:=by
 have:=zXb yUu hi;simp only[aD,decide_eq_true_eq]at this;exact⟨this.1.1.1.1.1,this.1.1.1.1.2,this.1.1.1.2⟩
theorem xLx{i:Nat}(hi:i<256):Di .u8 (i:Int) 6=((i / 64:Nat):Int)/\zKf .u64 1 (gJ .u8 .and (i:Int) 63)=((2 ^ (i % 64):Nat):Int)/\0<=gJ .u8 .and (i:Int) 63:=by
 have:=zXb yUu hi;simp only[aD,decide_eq_true_eq]at this;exact⟨this.1.1.2,this.1.2,this.2⟩
theorem zIi:Ty.dflt (.int .u64)=(0:Int):=rfl
def dL (a b:Nat):Nat->Bool:=fun i=>decide (a<=i)&&decide (i<=b)
theorem yMm{p q:Nat->Bool}(h:∀ i,i<256->p i=q i):some (wd p)=some (wd q):=by rw[Li h]
theorem zOq{p q:Nat->Bool}(h:∀ i,i<256->p i=q i):some (bx p)=some (bx q):=by rw[uI h]
theorem Pg{n a b:Nat}(hn:300<=n)(ha:a<256)(hb:b<256):dW n ((a:Int),(b:Int))=some (wd (dL a b)):=by
 unfold dW;simp only;rw[bD (by omega) (by omega)];by_cases hab:a<=b
 ·have:=yMl (lo:=a) (B:=xV n) (r:=some (wd (dL a b))) (N:=b+1) (λi=>((b:Int),(i:Int),wd (λj=>decide (a<=j)&&decide (j<i)),()))
   (by
    intro i hlo hi g;have hi2:i<256:=by omega
    obtain⟨s1,s2,s3⟩:=xLw hi2;rw[xV];simp only;have hc:i<=b:=by omega
    rw[bD (by omega) (by omega),s1,s2];rw[bG (by simp;omega),aI (by decide),aI (bI (by omega) (by omega)),aI (by simp;omega),aI (by simpa using s3),aI (bI (by omega) (by omega)),aI (by simp;omega)];rw[bD (by omega) (by omega),zIi,qCg,yUt _ hi2];have:wd (λj=>(decide (a<=j)&&decide (j<i))||decide (j=i))=wd (λj=>decide (a<=j)&&decide (j<i+1)):=by
     refine Li λj hj=>?_
     rw[qFu];simp;omega
    rw[this];rfl)
   (by
    intro g;rw[xV];simp only;rw[aQ (by rw[bD (by omega) (by omega)];simp;omega)];refine yMm λi hi=>?_
    simp only[dL];rw[qFu];simp;omega)
   (b+1-a) a n (by omega) (by omega) (by omega)
  have e:wd (λj=>decide (a<=j)&&decide (j<a))=[0,0,0,0]:=by
   rw[<- xQ];refine Li λj hj=>?_
   rw[qFu];simp
  simp only[e]at this;exact this
 ·rw[lZ (by omega),xV];simp only;rw[aQ (by rw[bD (by omega) (by omega)];simp;omega),<- xQ];refine yMm λj hj=>?_
  simp only[dL];rw[qFu];simp;omega
theorem zXc{n:Nat}(hn:5<=n)(p:Nat->Bool):Xv n (wd p)=some (wd λi=>!p i):=by
 obtain⟨m,rfl⟩:∃ m,n=m+5:=⟨n-5,by omega⟩;have h:=yZg p;have e:wd (λi=>!p i)=[gJ .u64 .xor 18446744073709551615 (word p 0),gJ .u64 .xor 18446744073709551615 (word p 1),gJ .u64 .xor 18446744073709551615 (word p 2),gJ .u64 .xor 18446744073709551615 (word p 3)]:=by rw[h,h,h,h];rfl
 rw[e];rfl
theorem yRf{n:Nat}(hn:5<=n)(g0:List (List Int) × Int × Int × List Int × Unit->Option (List Int))(l:List (List Int))(c i:Int)(p q:Nat->Bool):fix (zLh n g0) n (l,c,i,0,wd p,wd q,())=g0 (l,c,qEq .i64 (i+1),wd (λi=>p i||q i),()):=by
 obtain⟨m,rfl⟩:∃ m,n=m+5:=⟨n-5,by omega⟩;have h:=xDo p q;have e:wd (λi=>p i||q i)=[gJ .u64 .or (word p 0) (word q 0),gJ .u64 .or (word p 1) (word q 1),gJ .u64 .or (word p 2) (word q 2),gJ .u64 .or (word p 3) (word q 3)]:=by rw[h,h,h,h];rfl
 rw[e];rfl
theorem yBg{n:Nat}(ps:List (Nat->Bool))(hn:5<=n)(hl:ps.length<n)(hm:ps.length<1000):vV n (ps.map wd)=some (wd λi=>ps.any (· i)):=by
 unfold vV;simp only[qFs];have:=zAs (B:=Nk n) (r:=some (wd λi=>ps.any (· i))) (N:=ps.length) (λi=>(ps.map wd,(ps.length:Int),(i:Int),wd (λj=>(ps.take i).any (· j)),()))
  (by
   intro i hi g;rw[Nk];simp only;rw[bG (by simp;omega),aI (bI (by omega) (by simp;omega))];have hg:aM (Ty.dflt (.arr 4 (.int .u64))) (ps.map wd) (i:Int)=wd ps[i]:=by
    simp[aM,wG,hi]
   rw[hg,yRf hn,bD (by omega) (by omega)];have hw:wd (λj=>(ps.take i).any (· j)||ps[i] j)=wd (λj=>(ps.take (i+1)).any (· j)):=by
    refine Li λj hj=>?_
    rw[qGm hi,List.any_append];simp
   rw[hw];rfl)
  (by
   intro g;rw[Nk];simp only;rw[aQ (by simp)];simp)
  ps.length 0 n (by omega) hl
 simpa [xQ]using this
def ofP (s:List UInt8):Nat->Bool:=fun i=>s.any fun c=>decide (c.toNat = i)
theorem Mj{α:Type}{d:α}{s:List α}{i:Nat}(h:i<s.length):aM d s (i:Int)=s[i]:=by
 simp[aM,wG,h]
theorem yIa{s:List UInt8}{i:Nat}(h:i<s.length):ofP (s.take (i+1))=λj=>ofP (s.take i) j||decide (j=s[i].toNat):=by
 funext j;simp only[ofP];rw[qGm h,List.any_append];simp[eq_comm]
theorem zNg{n:Nat}(s:List UInt8)(hl:s.length<n)(hm:s.length<100000):xW n s=some (wd (ofP s)):=by
 unfold xW;simp only;have:=zAs (B:=Nl n) (r:=some (wd (ofP s))) (N:=s.length) (λi=>(s,(s.length:Int),(i:Int),wd (ofP (s.take i)),()))
  (by
   intro i hi g;have hc:s[i].toNat<256:=s[i].toNat_lt;obtain⟨s1,s2,s3⟩:=xLx hc;rw[Nl];simp only;rw[Mj hi,s1,s2];rw[bG (by simp;omega),aI (Jc hi),aI (by decide),aI (bI (by omega) (by omega)),aI (by simp;omega),aI (Jc hi),aI (by simpa using s3),aI (bI (by omega) (by omega)),aI (by simp;omega)];rw[bD (by omega) (by omega),zIi,qCg,yUt _ hc,yIa hi];rfl)
  (by
   intro g;rw[Nl];simp only;rw[aQ (by simp)];simp)
  s.length 0 n (by omega) hl
 have e:wd (ofP (s.take 0))=[0,0,0,0]:=by rw[<- xQ];rfl
 simp only[e]at this;simpa using this
theorem zZr{n a b:Nat}(hn:300<=n)(ha:a<256)(hb:b<256):jA n ((a:Int),(b:Int))=some (bx (dL a b)):=by
 unfold jA;simp only;rw[bD (by omega) (by omega)];by_cases hab:a<=b
 ·have:=yMl (lo:=a) (B:=uM n) (r:=some (bx (dL a b))) (N:=b+1) (λi=>((b:Int),(i:Int),qAf 256 false,bx (λj=>decide (a<=j)&&decide (j<i)),()))
   (by
    intro i hlo hi g;have hi2:i<256:=by omega
    rw[uM];simp only;have hc:i<=b:=by omega
    rw[bD (by omega) (by omega)];rw[bG (by simp;omega),aI (bI (by omega) (by omega)),aI (by simp;omega)];rw[bD (by omega) (by omega),qCg,zAt];have:bx (λj=>if j=i then true else(decide (a<=j)&&decide (j<i)))=bx (λj=>decide (a<=j)&&decide (j<i+1)):=by
     refine uI λj hj=>?_
     rw[qFu];split<;>simp<;>omega
    rw[this];rfl)
   (by
    intro g;rw[uM];simp only;rw[aQ (by rw[bD (by omega) (by omega)];simp;omega)];refine zOq λi hi=>?_
    simp only[dL];rw[qFu];simp;omega)
   (b+1-a) a n (by omega) (by omega) (by omega)
  have e:bx (λj=>decide (a<=j)&&decide (j<a))=qAf 256 false:=by
   rw[<- zGa];refine uI λj hj=>?_
   rw[qFu];simp
  simp only[e]at this;exact this
 ·rw[lZ (by omega),uM];simp only;rw[aQ (by rw[bD (by omega) (by omega)];simp;omega),<- zGa];refine zOq λj hj=>?_
  simp only[dL];rw[qFu];simp;omega
theorem yKq{n:Nat}(hn:300<=n)(p q:Nat->Bool):Bd n (bx p,bx q)=some (bx λi=>p i||q i):=by
 unfold Bd;simp only;have:=zAs (B:=Hq n) (r:=some (bx λi=>p i||q i)) (N:=256) (λi=>((i:Int),bx (λj=>if j<i then p j||q j else p j),bx q,qAf 256 false,()))
  (by
   intro i hi g;have key:∀ b,b=(p i||q i)->(g (((i+1:Nat):Int),bx (λj=>if j=i then b else if j<i then p j||q j else p j),bx q,qAf 256 false,())=g (((i+1:Nat):Int),bx (λj=>if j<i+1 then p j||q j else p j),bx q,qAf 256 false,())):=by
    intro b hb;have:bx (λj=>if j=i then b else if j<i then p j||q j else p j)=bx (λj=>if j<i+1 then p j||q j else p j):=by
     refine uI λj hj=>?_
     by_cases e:j=i
     ·subst e;simp[hb]
     ·by_cases e2:j<i
      ·simp[e,e2,qGn e2]
      ·simp[e,e2,show ¬ j<i+1 by omega]
    rw[this]
   rw[Hq];simp only;rw[bG (by simp;omega),aI (bI (by omega) (by omega)),aI (by simp;omega),aI (bI (by omega) (by omega)),aI (by simp;omega)];rw[bD (by omega) (by omega),qCg,zNf _ hi,zNf _ hi,zAt,zAt,show(i:Int)+1=((i+1:Nat):Int)from rfl];simp only[Nat.lt_irrefl,if_false];cases hp:p i
   ·rw[aQ rfl,aI (bI (by omega) (by omega)),aI (decide_eq_true hi),aI (bI (by omega) (by omega)),aI (decide_eq_true hi)];rw[key (q i) (by rw[hp];rfl)]
   ·rw[bG rfl];exact key true (by rw[hp];rfl))
  (by
   intro g;rw[Hq];simp only;rw[aQ (by simp)];refine zOq λi hi=>?_
   simp[hi])
  256 0 n (by omega) (by omega)
 have e:bx (λj=>if j<0 then p j||q j else p j)=bx p:=uI λj hj=>by simp
 rw[e]at this;exact this
theorem yKr{n:Nat}(s:List UInt8)(hl:s.length<n)(hm:s.length<100000):Yv n s=some (bx (ofP s)):=by
 unfold Yv;simp only;have:=zAs (B:=Hr n) (r:=some (bx (ofP s))) (N:=s.length) (λi=>(s,(i:Int),qAf 256 false,bx (ofP (s.take i)),()))
  (by
   intro i hi g;have hc:s[i].toNat<256:=s[i].toNat_lt;rw[Hr];simp only;rw[Mj hi];rw[bG (by simp;omega),aI (Jc hi),aI (bI (by omega) (by omega)),aI (by simp;omega)];rw[bD (by omega) (by omega),qCg,zAt,yIa hi];have:bx (λj=>if j=s[i].toNat then true else ofP (s.take i) j)=bx (λj=>ofP (s.take i) j||decide (j=s[i].toNat)):=by
    refine uI λj hj=>?_
    by_cases e:j=s[i].toNat
    ·rw[if_pos e];simp[e]
    ·rw[if_neg e];simp[e]
   rw[this];rfl)
  (by
   intro g;rw[Hr];simp only;rw[aQ (by simp)];simp)
  s.length 0 n (by omega) hl
 have e:bx (ofP (s.take 0))=qAf 256 false:=by rw[<- zGa];rfl
 simp only[e]at this;exact this
theorem xHm{p:Nat->Bool}:wd p=[0,0,0,0]<->∀ i,i<256->p i=false:=by
 rw[<- xQ];exact⟨λh i hi=>xHl h hi,λh=>Li h⟩
theorem xLy{p q:Nat->Bool}:Ty.beq (.arr 4 (.int .u64)) (wd p) (wd q)=true<->wd p=wd q:=beq_iff rfl
def vN (p:Nat->Bool) (i k:Nat):Nat:=bn (fun j=>p (max i (64*k)+j)) (64*(k+1)-max i (64*k))
def vW (p:Nat->Bool) (i:Nat):List Int:=[((vN p i 0:Nat):Int),((vN p i 1:Nat):Int),((vN p i 2:Nat):Int),((vN p i 3:Nat):Int)]
theorem xBm(p:Nat->Bool)(i k:Nat):vN p i k<2 ^ 64:=by
 unfold vN;exact wD (yRe _ _) (Nat.pow_le_pow_right (by omega) (by omega))
theorem yMn(p:Nat->Bool){i k:Nat}(h:i / 64=k):vN p i k=(p i).toNat+2*vN p (i+1) k:=by
 unfold vN;have h1:max i (64*k)=i:=by omega
 have h2:max (i+1) (64*k)=i+1:=by omega
 rw[h1,h2,show 64*(k+1)-i=(64*(k+1)-(i+1))+1 by omega];rw[bn];congr 2;apply zTl;intro j hj;show p (i+(j+1))=p (i+1+j);congr 1;omega
theorem yIb(p:Nat->Bool){i k:Nat}(h:i / 64≠k):vN p (i+1) k=vN p i k:=by
 unfold vN;by_cases h1:i<64*k
 ·have h1':max i (64*k)=64*k:=by omega
  have h2:max (i+1) (64*k)=64*k:=by omega
  rw[h1',h2]
 ·have h3:64*(k+1)-max i (64*k)=0:=by omega
  have h4:64*(k+1)-max (i+1) (64*k)=0:=by omega
  rw[h3,h4];rfl
theorem yMo(p:Nat->Bool):vW p 0=wd p:=by
 unfold vW wd word zCq vN;simp[show ∀ k,max 0 (64*k)=64*k by omega]
theorem xHn(p:Nat->Bool){i:Nat}(hi:i<256):(vW p (i+1)).set (i / 64) ((vN p i (i / 64):Nat):Int)=vW p i:=by
 have hk:i / 64=0\/i / 64=1\/i / 64=2\/i / 64=3:=by omega
 have ho:∀ k,i / 64≠k->vN p (i+1) k=vN p i k:=λk h=>yIb p h
 rcases hk with h|h|h|h<;>rw[h]<;>simp only[vW,qGf,qGg]
 ·rw[ho 1 (by omega),ho 2 (by omega),ho 3 (by omega)]
 ·rw[ho 0 (by omega),ho 2 (by omega),ho 3 (by omega)]
 ·rw[ho 0 (by omega),ho 1 (by omega),ho 3 (by omega)]
 ·rw[ho 0 (by omega),ho 1 (by omega),ho 2 (by omega)]
theorem xDq(p:Nat->Bool){i:Nat}(hi:i<256):(vW p i).set (i / 64) ((vN p (i+1) (i / 64):Nat):Int)=vW p (i+1):=by
 have hk:i / 64=0\/i / 64=1\/i / 64=2\/i / 64=3:=by omega
 have ho:∀ k,i / 64≠k->vN p (i+1) k=vN p i k:=λk h=>yIb p h
 rcases hk with h|h|h|h<;>rw[h]<;>simp only[vW,qGf,qGg]
 ·rw[ho 1 (by omega),ho 2 (by omega),ho 3 (by omega)]
 ·rw[ho 0 (by omega),ho 2 (by omega),ho 3 (by omega)]
 ·rw[ho 0 (by omega),ho 1 (by omega),ho 3 (by omega)]
 ·rw[ho 0 (by omega),ho 1 (by omega),ho 2 (by omega)]
theorem yUv(p:Nat->Bool){i k:Nat}(hk:k<4):(vW p i).getD k 0=((vN p i k:Nat):Int):=by
 have:k=0\/k=1\/k=2\/k=3:=by omega
 rcases this with rfl|rfl|rfl|rfl<;>rfl
theorem xHo(p:Nat->Bool)(i:Nat):(vW p i).length=4:=rfl
theorem zZs{n:Nat}(hn:300<=n)(p:Nat->Bool):Jp n (bx p)=some (wd p):=by
 unfold Jp;simp only;have:=zAs (B:=zO n) (r:=some (wd p)) (N:=256) (λi=>(255-(i:Int),bx p,[0,0,0,0],vW p (256-i),()))
  (by
   intro i hi g;obtain⟨j,hj⟩:∃ j,j=255-i:=⟨_,rfl⟩;have e1:(255:Int)-(i:Int)=(j:Int):=by omega
   have e2:256-i=j+1:=by omega
   have e3:(255:Int)-((i+1:Nat):Int)=(j:Int)-1:=by omega
   have e4:256-(i+1)=j:=by omega
   have hj2:j<256:=by omega
   have hk:j / 64<4:=by omega
   have hv:qEq .i64 (Int.tdiv (j:Int) 64)=((j / 64:Nat):Int):=by
    rw[IntWalk.i64_quo _ _ (by omega)];rfl
   have hs:=yMn p (i:=j) rfl;have hlt:=xBm p j (j / 64);rw[e1,e2,e3,e4,zO];simp only;rw[bG (by simp),aI (by decide),aI (by decide),hv,aI (bI (by omega) (by omega)),aI (by simp;omega),aI (bI (by omega) (by omega)),aI (by simp;omega),aI (bI (by omega) (by omega)),aI (by simp;omega)];rw[qCg,qCg,zIi,yUv p hk,zNf _ hj2,bD (by omega) (by omega)];rw[<- xHn p hj2];cases hp:p j
   ·rw[aQ rfl];rw[hp]at hs;rw[IntWalk.u64_in _ (by simp at hs;omega)];have:((vN p (j+1) (j / 64):Nat):Int)*2=((vN p j (j / 64):Nat):Int):=by simp at hs;omega
    rw[this]
   ·rw[bG rfl,aI (by decide),aI (bI (by omega) (by omega)),aI (by simp;omega),aI (bI (by omega) (by omega)),aI (by simp;omega)];rw[hp]at hs;simp only[Bool.toNat_true]at hs;rw[IntWalk.u64_in _ (by omega)];have hg:∀ y,((vW p (j+1)).set (j / 64) y).getD (j / 64) 0=y:=by
     intro y;rw[wG,List.getElem?_set_self (by rw[xHo];exact hk)];rfl
    rw[hg,IntWalk.u64_in _ (by omega),List.set_set];have:((vN p (j+1) (j / 64):Nat):Int)*2+1=((vN p j (j / 64):Nat):Int):=by omega
    rw[this])
  (by
   intro g;rw[zO];simp only;rw[aQ (by simp)];rw[show 256-256=0 from rfl,yMo])
  256 0 n (by omega) (by omega)
 exact this
theorem yCu{n:Nat}(hn:300<=n)(p:Nat->Bool):Nn n (wd p)=some (bx p):=by
 unfold Nn;simp only;have:=zAs (B:=Bf n) (r:=some (bx p)) (N:=256) (λi=>((i:Int),vW p i,qAf 256 false,bx (λj=>decide (j<i)&&p j),()))
  (by
   intro i hi g;have hk:i / 64<4:=by omega
   have hv:qEq .i64 (Int.tdiv (i:Int) 64)=((i / 64:Nat):Int):=by
    rw[IntWalk.i64_quo _ _ (by omega)];rfl
   have hs:=yMn p (i:=i) rfl;have hlt:=xBm p i (i / 64);rw[Bf];simp only;rw[hv,qCg,qCg,zIi,yUv p hk,zAt];have e1:qEq .u64 (Int.tdiv ((vN p i (i / 64):Nat):Int) 2)=((vN p (i+1) (i / 64):Nat):Int):=by
    rw[IntWalk.u64_quo _ _ (by omega)];cases hp:p i<;>rw[hp]at hs<;>simp at hs<;>omega
   have e2:(Int.tmod ((vN p i (i / 64):Nat):Int) 2==1)=p i:=by
    rw[Int.tmod_eq_emod_of_nonneg (by omega)];cases hp:p i<;>rw[hp]at hs<;>simp at hs<;>simp<;>omega
   rw[e1,e2,xDq p hi];rw[bG (by simp;omega),aI (by decide),aI (bI (by omega) (by omega)),aI (by simp;omega),aI (by decide),aI (bI (by omega) (by omega)),aI (by simp;omega),aI (by decide),aI (by decide),aI (bI (by omega) (by omega)),aI (by simp;omega),aI (by decide),aI (bI (by omega) (by omega)),aI (by simp;omega)];rw[bD (by omega) (by omega)];have:bx (λj=>if j=i then p i else decide (j<i)&&p j)=bx (λj=>decide (j<i+1)&&p j):=by
    refine uI λj hj=>?_
    by_cases e:j=i
    ·subst e;simp
    ·rw[if_neg e];congr 1;apply decide_eq_decide.2;omega
   rw[this];rfl)
  (by
   intro g;rw[Bf];simp only;rw[aQ (by simp)];refine zOq λi hi=>?_
   simp[hi])
  256 0 n (by omega) (by omega)
 have e:bx (λj=>decide (j<0)&&p j)=qAf 256 false:=by rw[<- zGa];exact uI λj hj=>by simp
 rw[e,yMo]at this;exact this
theorem zXd{n:Nat}(hn:300<=n)(p q:Nat->Bool):fix (uN n) n (0,qAf 256 false,bx p,bx q,())=some (bx (λi=>q i&&!p i),true):=by
 have:=zAs (B:=uN n) (r:=some (bx (λi=>q i&&!p i),true)) (N:=256) (λi=>((i:Int),qAf 256 false,bx p,bx (λj=>if j<i then q j&&!p j else q j),()))
  (by
   intro i hi g;have key:∀ b,b=(q i&&!p i)->(g (((i+1:Nat):Int),qAf 256 false,bx p,bx (λj=>if j=i then b else if j<i then q j&&!p j else q j),())=g (((i+1:Nat):Int),qAf 256 false,bx p,bx (λj=>if j<i+1 then q j&&!p j else q j),())):=by
    intro b hb;have:bx (λj=>if j=i then b else if j<i then q j&&!p j else q j)=bx (λj=>if j<i+1 then q j&&!p j else q j):=by
     refine uI λj hj=>?_
     by_cases e:j=i
     ·subst e;simp[hb]
     ·by_cases e2:j<i
      ·simp[e,e2,qGn e2]
      ·simp[e,e2,show ¬ j<i+1 by omega]
    rw[this]
   rw[uN];simp only;rw[bG (by simp;omega),aI (bI (by omega) (by omega)),aI (by simp;omega)];rw[bD (by omega) (by omega),qCg,zNf _ hi,zNf _ hi,zAt,zAt,show(i:Int)+1=((i+1:Nat):Int)from rfl];simp only[Nat.lt_irrefl,if_false];cases hq:q i
   ·rw[aQ rfl,aI (bI (by omega) (by omega)),aI (decide_eq_true hi)];exact key false (by rw[hq];rfl)
   ·rw[bG rfl,aI (bI (by omega) (by omega)),aI (decide_eq_true hi),aI (bI (by omega) (by omega)),aI (decide_eq_true hi)];exact key (!p i) (by rw[hq];rfl))
  (by
   intro g;rw[uN];simp only;rw[aQ (by simp)];have e:bx (λj=>if j<256 then q j&&!p j else q j)=bx (λi=>q i&&!p i):=uI λj hj=>by simp[hj]
   rw[e])
  256 0 n (by omega) (by omega)
 have e:bx (λj=>if j<0 then q j&&!p j else q j)=bx q:=uI λj hj=>by simp
 rw[e]at this;exact this
def yIc (ps:List (Nat->Bool)):Nat->Bool:=fun i=>ps.any (· i)
def zGb (s:List UInt8):Option (Nat->Bool) :=bif s==[117,112,112,101,114] then some (dL 65 90) else bif s==[108,111,119,101,114] then some (dL 97 122) else bif s==[97,108,112,104,97] then some (yIc [dL 65 90,dL 97 122]) else bif s==[100,105,103,105,116] then some (dL 48 57) else bif s==[97,108,110,117,109] then some (yIc [dL 65 90,dL 97 122,dL 48 57]) else bif s==[120,100,105,103,105,116] then some (yIc [dL 48 57,dL 65 70,dL 97 102]) else bif s==[98,108,97,110,107] then some (ofP [32,9]) else bif s==[115,112,97,99,101] then some (ofP [32,9,10,11,12,13]) else bif s==[99,110,116,114,108] then some (yIc [dL 0 31,ofP [127]]) else bif s==[103,114,97,112,104] then some (dL 33 126) else bif s==[112,114,105,110,116] then some (dL 32 126) else bif s==[112,117,110,99,116] then some (yIc [dL 33 47,dL 58 64,dL 91 96,dL 123 126]) else none
def yMp(o:Option (Nat->Bool))(a:Option (List Int × Bool))(b:Option (List Bool × Bool)):Prop:=match o with
 |some p=>a=some (wd p,true)/\b=some (bx p,true)
 |none=>a=some (wd λ_=>false,false)/\∃ p,b=some (bx p,false)
theorem nS{p q:Nat->Bool}(h:((qAr 256).all λi=>p i==q i)=true)(o:Option (List Int × Bool))(o2:Option (List Bool × Bool))(h1:o=some (wd p,true))(h2:o2=some (bx q,true)):yMp (some p) o o2:=by
 refine⟨h1,?_⟩;rw[h2];have:bx q=bx p:=uI λi hi=>by have:=zXb h hi;simp at this;exact this.symm
 rw[this]
theorem yRg{n:Nat}(hn:300<=n)(s:List UInt8):yMp (zGb s) (Tc n s) (zQl n s):=by
 have R:∀ a b:Nat,a<256->b<256->dW n ((a:Int),(b:Int))=some (wd (dL a b)):=λa b ha hb=>Pg hn ha hb
 have R2:∀ a b:Nat,a<256->b<256->jA n ((a:Int),(b:Int))=some (bx (dL a b)):=λa b ha hb=>zZr hn ha hb
 have O:∀ ps:List (Nat->Bool),ps.length<10->vV n (ps.map wd)=some (wd λi=>ps.any (· i)):=λps h=>yBg ps (by omega) (by omega) (by omega)
 have O2:=λp q=>yKq hn p q
 have F:∀ s:List UInt8,s.length<10->xW n s=some (wd (ofP s)):=λs h=>zNg s (by omega) (by omega)
 have F2:∀ s:List UInt8,s.length<10->Yv n s=some (bx (ofP s)):=λs h=>yKr s (by omega) (by omega)
 unfold Tc zQl zGb;simp only;rw[show((65:Int),(90:Int))=(((65:Nat):Int),((90:Nat):Int))from rfl,show((97:Int),(122:Int))=(((97:Nat):Int),((122:Nat):Int))from rfl,show((48:Int),(57:Int))=(((48:Nat):Int),((57:Nat):Int))from rfl];rw[R 65 90 (by omega) (by omega),R 97 122 (by omega) (by omega),R 48 57 (by omega) (by omega),R2 65 90 (by omega) (by omega),R2 97 122 (by omega) (by omega),R2 48 57 (by omega) (by omega)];simp only[aK];rw[O2];simp only[aK];rw[O2];simp only[aK];cases s==[117,112,112,101,114]
 case true=>exact nS (by decide +kernel) _ _ rfl rfl
 simp only[bS,cond_false];cases s==[108,111,119,101,114]
 case true=>exact nS (by decide +kernel) _ _ rfl rfl
 simp only[bS,cond_false];cases s==[97,108,112,104,97]
 case true =>
  have:=O [dL 65 90,dL 97 122] (by decide);simp only[qEv]at this;simp only[dH,this,aK];exact nS (by decide +kernel) _ _ rfl rfl
 simp only[bS,cond_false];cases s==[100,105,103,105,116]
 case true=>exact nS (by decide +kernel) _ _ rfl rfl
 simp only[bS,cond_false];cases s==[97,108,110,117,109]
 case true =>
  have:=O [dL 65 90,dL 97 122,dL 48 57] (by decide);simp only[qEv]at this;simp only[dH,this,aK];exact nS (by decide +kernel) _ _ rfl rfl
 simp only[bS,cond_false];cases s==[120,100,105,103,105,116]
 case true =>
  have:=O [dL 48 57,dL 65 70,dL 97 102] (by decide);simp only[qEv]at this;simp only[dH];rw[show((65:Int),(70:Int))=(((65:Nat):Int),((70:Nat):Int))from rfl,show((97:Int),(102:Int))=(((97:Nat):Int),((102:Nat):Int))from rfl];rw[R 65 70 (by omega) (by omega),R 97 102 (by omega) (by omega),R2 65 70 (by omega) (by omega),R2 97 102 (by omega) (by omega)];simp only[aK];rw[O2,this];simp only[aK];rw[O2];exact nS (by decide +kernel) _ _ rfl rfl
 simp only[bS,cond_false];cases s==[98,108,97,110,107]
 case true =>
  simp only[dH];rw[F _ (by decide),F2 _ (by decide)];exact nS (by decide +kernel) _ _ rfl rfl
 simp only[bS,cond_false];cases s==[115,112,97,99,101]
 case true =>
  simp only[dH];rw[show((9:Int),(13:Int))=(((9:Nat):Int),((13:Nat):Int))from rfl];rw[F _ (by decide),F2 _ (by decide),R2 9 13 (by omega) (by omega)];simp only[aK];rw[O2];exact nS (by decide +kernel) _ _ rfl rfl
 simp only[bS,cond_false];cases s==[99,110,116,114,108]
 case true =>
  simp only[dH];rw[show((0:Int),(31:Int))=(((0:Nat):Int),((31:Nat):Int))from rfl,show((127:Int),(127:Int))=(((127:Nat):Int),((127:Nat):Int))from rfl];rw[R 0 31 (by omega) (by omega),R2 0 31 (by omega) (by omega),R2 127 127 (by omega) (by omega),F _ (by decide)];have:=O [dL 0 31,ofP [127]] (by decide);simp only[qEv]at this;simp only[aK];rw[O2,this];exact nS (by decide +kernel) _ _ rfl rfl
 simp only[bS,cond_false];cases s==[103,114,97,112,104]
 case true =>
  simp only[dH];rw[show((33:Int),(126:Int))=(((33:Nat):Int),((126:Nat):Int))from rfl];rw[R 33 126 (by omega) (by omega),R2 33 126 (by omega) (by omega)];exact nS (by decide +kernel) _ _ rfl rfl
 simp only[bS,cond_false];cases s==[112,114,105,110,116]
 case true =>
  simp only[dH];rw[show((32:Int),(126:Int))=(((32:Nat):Int),((126:Nat):Int))from rfl];rw[R 32 126 (by omega) (by omega),R2 32 126 (by omega) (by omega)];exact nS (by decide +kernel) _ _ rfl rfl
 simp only[bS,cond_false];cases s==[112,117,110,99,116]
 case true =>
  simp only[dH];rw[show((33:Int),(126:Int))=(((33:Nat):Int),((126:Nat):Int))from rfl,show((33:Int),(47:Int))=(((33:Nat):Int),((47:Nat):Int))from rfl,show((58:Int),(64:Int))=(((58:Nat):Int),((64:Nat):Int))from rfl,show((91:Int),(96:Int))=(((91:Nat):Int),((96:Nat):Int))from rfl,show((123:Int),(126:Int))=(((123:Nat):Int),((126:Nat):Int))from rfl];rw[R 33 47 (by omega) (by omega),R 58 64 (by omega) (by omega),R 91 96 (by omega) (by omega),R 123 126 (by omega) (by omega),R2 33 126 (by omega) (by omega)];have:=O [dL 33 47,dL 58 64,dL 91 96,dL 123 126] (by decide);simp only[qEv]at this;simp only[aK];rw[this,zXd hn];exact nS (by decide +kernel) _ _ rfl rfl
 simp only[bS,cond_false];exact⟨by rw[xQ],λ_=>false,by rw[zGa]⟩
theorem zAu{n:Nat}{r t:List UInt8}:strings_HasPrefix n (r,t)=some (t.isPrefixOf r):=by
 unfold strings_HasPrefix iC;simp only;by_cases h:t.length<=r.length
 ·rw[bG (by simp;omega),aI (by simp;omega)];simp only[aK,qCg];congr 1;rw[qFu,qFz,List.prefix_iff_eq_take,beq_iff_eq];exact eq_comm
 ·rw[aQ (by simp;omega)];simp only[aK];congr 1
  symm
  rw[qGh,ne_eq,qFz];intro hp;have:=hp.length_le;omega
theorem qN{n:Nat}{s t:List UInt8}{i:Nat}(hi:i<=s.length):gH n (t,s,(i:Int),())=some (t.isPrefixOf (s.drop i),s,(i:Int),()):=by
 unfold gH;simp only;rw[aI (by simp;omega),zAu];rfl
theorem mD{r t:List UInt8}(h:t.isPrefixOf r=true):t.length<=r.length:=by
 rw[qFz]at h;exact h.length_le
theorem vM{n:Nat}{s t:List UInt8}{i:Nat}(hi:i<=s.length)(hs:s.length<1000000)(h:t.isPrefixOf (s.drop i)=true):fO n (t,s,(i:Int),())=some (true,s,((i+t.length:Nat):Int),()):=by
 have hl:=mD h;rw[yV]at hl;unfold fO;simp only;rw[qN hi];simp only[aK,h,qCc,bS];rw[bD (by omega) (by omega)];rfl
theorem vO{n:Nat}{s t:List UInt8}{i:Nat}(hi:i<=s.length)(h:t.isPrefixOf (s.drop i)=false):fO n (t,s,(i:Int),())=some (false,s,(i:Int),()):=by
 unfold fO;simp only;rw[qN hi];simp only[aK,h,qFt,dH]
theorem eqI{c:UInt8}(k:UInt8):((c.toNat:Int)==(k.toNat:Int))=(k==c):=by
 rw[qFu,beq_iff_eq,beq_iff_eq,Int.ofNat_inj,UInt8.toNat_inj];exact eq_comm
theorem zIj{s:List UInt8}{i j:Nat}{d c:UInt8}(h:(s.drop i)[j]?=some c):aM d s ((i+j:Nat):Int)=c:=by
 rw[List.getElem?_drop]at h;unfold aM;rw[qCg,wG,h];rfl
theorem Uq{s t:List UInt8}{i:Nat}{a:UInt8}(h:s.drop i=a::t):s.drop (i+1)=t/\i<s.length:=by
 refine⟨?_,?_⟩
 ·rw[<- zT,h];rfl
 ·have:=congrArg qGo h;rw[yV,xI]at this;omega
theorem xHp{r:List UInt8}{a b:UInt8}(h:[a,b].isPrefixOf r=true):∃ t,r=a::b::t:=by
 rw[qFz]at h;obtain⟨t,rfl⟩:=h;exact⟨t,rfl⟩
theorem xLz{r:List UInt8}{a:UInt8}(h:[a].isPrefixOf r=true):∃ t,r=a::t:=by
 rw[qFz]at h;obtain⟨t,rfl⟩:=h;exact⟨t,rfl⟩
def Kr (x:UInt8) (b:Bool):List UInt8->Option (UInt8×Nat×Bool) | _ :: _ :: c :: t=>bif [x,93].isPrefixOf t then some (c,5,b) else none | _=>none
def Sn(first ends:Bool)(r:List UInt8):Option (UInt8 × Nat × Bool):=
 bif [91,46].isPrefixOf r then Kr 46 true r
 else bif [91,61].isPrefixOf r then Kr 61 false r
 else bif [92,110].isPrefixOf r then some (10,2,true)
 else bif [91,58].isPrefixOf r then none
 else bif [93].isPrefixOf r&&!first then none
 else bif [45].isPrefixOf r&&!first&&!ends&&!([45,93].isPrefixOf r)then none
 else match r with|[]=>none|c::_=>some (c,1,true)
theorem yUw{x:UInt8}{b:Bool}{c:UInt8}{k:Nat}{m:Bool}:∀ {r:List UInt8},Kr x b r=some (c,k,m)->1<=k/\k<=r.length
 |[],h=>absurd h (by simp[Kr])
 |[_],h=>absurd h (by simp[Kr])
 |[_,_],h=>absurd h (by simp[Kr])
 |_::_::d::t,h=>by
  unfold Kr at h;cases hp:[x,93].isPrefixOf t<;>simp only[hp,cond_true,cond_false]at h
  ·exact absurd h (by simp)
  ·have:=mD hp;simp only[xI,qBn,aA,aC]at this h ⊢;omega
theorem zNh{first ends:Bool}{r:List UInt8}{c:UInt8}{k:Nat}{m:Bool}(h:Sn first ends r=some (c,k,m)):1<=k/\k<=r.length:=by
 have mk:∀ {x:UInt8}{b:Bool},Kr x b r=some (c,k,m)->1<=k/\k<=r.length:=λh=>yUw h
 unfold Sn at h;cases h1:[91,46].isPrefixOf r<;>simp only[h1,cond_true,cond_false]at h
 ·cases h2:[91,61].isPrefixOf r<;>simp only[h2,cond_true,cond_false]at h
  ·cases h3:[92,110].isPrefixOf r<;>simp only[h3,cond_true,cond_false]at h
   ·cases h4:[91,58].isPrefixOf r<;>simp only[h4,cond_true,cond_false]at h
    ·cases h5:[93].isPrefixOf r&&!first<;>simp only[h5,cond_true,cond_false]at h
     ·cases h6:[45].isPrefixOf r&&!first&&!ends&&!([45,93].isPrefixOf r)<;>simp only[h6,cond_true,cond_false]at h
      ·split at h
       ·exact absurd h (by simp)
       ·simp only[aA,aC,xI]at h ⊢;omega
      ·exact absurd h (by simp)
     ·exact absurd h (by simp)
    ·exact absurd h (by simp)
   ·have:=mD h3;simp only[xI,qBn,aA,aC]at this h;omega
  ·exact mk h
 ·exact mk h
def Kh(s:List UInt8)(i:Nat)(o:Option (UInt8 × Nat × Bool))(e:Option (Sum (Int × Bool × List UInt8 × Int × Unit) (Int × Int × List UInt8 × Int × Unit))):Prop:=match o with
 |some (c,k,m)=>e=some (.inl ((c.toNat:Int),m,s,((i+k:Nat):Int),()))
 |none=>∃ a,e=some (.inr (42,0,s,a,()))
theorem Dh{n:Nat}{x:List UInt8 × Int × Unit}:bY n x=some (.inr (42,0,x)):=rfl
theorem zRd{n:Nat}{s:List UInt8}{i:Nat}{mk:UInt8}{t:List UInt8}(hi:i<=s.length)(hs:s.length<1000000)(hr:s.drop i=91::mk::t):Kh s i (Kr mk ([mk]==[46]) (s.drop i))
  (br ((s.length:Int)==((i+2:Nat):Int)) (ob2 (bY n (s,((i+2:Nat):Int),())) (λy17=>none) (λy17=>some (.inr (y17.1,y17.2.1,y17.2.2.1,y17.2.2.2.1,()))))
   (chk ((decide (0<=qEq .i64 (((i+2:Nat):Int)+1))&&decide (qEq .i64 (((i+2:Nat):Int)+1)<=(s.length:Int)))) (
    chk (decide (([mk]:List UInt8).length+([93]:List UInt8).length<=qV)) (
     ob (strings_HasPrefix n (s.drop (qEq .i64 (((i+2:Nat):Int)+1)).toNat,[mk]++[93])) λy19 =>
     br (!y19) (
      ob2 (bY n (s,((i+2:Nat):Int),())) (λy20 =>
       none) (λy20 =>
       some (.inr (y20.1,y20.2.1,y20.2.2.1,y20.2.2.2.1,())))) (
      jn (yR n) ([mk],s,((i+2:Nat):Int),())))))):=by
 obtain⟨h1,h1'⟩:=Uq hr;obtain⟨h2,h2'⟩:=Uq h1;have hlen:s.length=i+2+t.length:=by
  have:=congrArg qGo hr;simp only[yV,xI]at this;omega
 rw[hr];cases t with
 |nil =>
  simp only[qBn]at hlen;rw[bG (by simp;omega),Dh];simp only[oU,Kh,Kr];exact⟨_,rfl⟩
 |cons c t =>
  simp only[xI]at hlen;obtain⟨h3,h3'⟩:=Uq h2;rw[aQ (by simp;omega)];have hw:qEq .i64 (((i+2:Nat):Int)+1)=((i+1+1+1:Nat):Int):=by rw[bD (by omega) (by omega)];omega
  rw[hw,aI (by simp;omega),aI (by simp[qV]),qCg,h3,zAu];simp only[aK,qCt,List.nil_append];cases hp:[mk,93].isPrefixOf t
  ·simp only[qFt,dH,Dh,oU,cond_false,Kh,Kr,hp];exact⟨_,rfl⟩
  ·simp only[qCc,bS,cond_true,Kh,zNe,yR,Kr,hp];have:=mD hp;simp only[xI,qBn]at this;rw[aI (Jc (by omega)),bD (by omega) (by omega),show((i+2:Nat):Int)=((i+2:Nat):Int)from rfl,zIj (c:=c) (by rw[hr];rfl)];rfl
theorem zXe{n:Nat}{s:List UInt8}{i:Nat}{first ends:Bool}(hn:3<=n)(hi:i<=s.length)(hs:s.length<1000000):Kh s i (Sn first ends (s.drop i)) (rP n (first,ends,s,(i:Int),())):=by
 obtain⟨m,rfl⟩:∃ m,n=m+3:=⟨n-3,by omega⟩;have hlen:(s.drop i).length=s.length-i:=yV;have hin:∀ {t:List UInt8},t.isPrefixOf (s.drop i)=true->i+t.length<=s.length:=λh=>by have:=mD h;omega
 unfold rP Sn;simp only;rw[Lh,rZ];simp only;rw[bG (by rfl),aI (by rfl),aI (by rfl),aI (by rfl)];rw[show [91]++qGb [[46],[61]] (0+qGc 0) (Ty.dflt .str)=([91,46]:List UInt8)from rfl,show qGb [[46],[61]] (0+qGc 0) (Ty.dflt .str)=([46]:List UInt8)from rfl];cases h1:[91,46].isPrefixOf (s.drop i)
 case true =>
  obtain⟨t,ht⟩:=xHp h1;rw[vM hi hs h1];simp only[aK,qCc,bS,cond_true];exact zRd hi hs ht
 rw[vO hi h1];simp only[aK,qFt,dH,cond_false];rw[show qEq .i64 (0+1)=1 from rfl,Lh,rZ];simp only;rw[bG (by rfl),aI (by rfl),aI (by rfl),aI (by rfl)];rw[show [91]++qGb [[46],[61]] (0+qGc 1) (Ty.dflt .str)=([91,61]:List UInt8)from rfl,show qGb [[46],[61]] (0+qGc 1) (Ty.dflt .str)=([61]:List UInt8)from rfl];cases h2:[91,61].isPrefixOf (s.drop i)
 case true =>
  obtain⟨t,ht⟩:=xHp h2;rw[vM hi hs h2];simp only[aK,qCc,bS,cond_true];exact zRd hi hs ht
 rw[vO hi h2];simp only[aK,qFt,dH,cond_false];rw[show qEq .i64 (1+1)=2 from rfl,Lh,rZ];simp only;rw[aQ (by rfl)];cases h3:[92,110].isPrefixOf (s.drop i)
 case true =>
  rw[vM hi hs h3];simp only[aK,dH,cond_true,Kh];rfl
 rw[vO hi h3];have xJx:∀ {c:UInt8}{t:List UInt8},s.drop i=c::t->nL (m+3) (s,(i:Int),())=some (.inl ((c.toNat:Int),true,s,((i+1:Nat):Int),())):=by
  intro c t hr;obtain⟨_,h⟩:=Uq hr;unfold nL;simp only;have e:qEq .i64 (qEq .i64 ((i:Int)+1)-1)=((i+0:Nat):Int):=by
   rw[bD (x:=(i:Int)+1) (by omega) (by omega),bD (by omega) (by omega)];omega
  rw[e,aI (Jc (by omega)),zIj (c:=c) (by rw[hr];rfl),bD (by omega) (by omega)];rfl
 have yDo:∀ bare:Bool,Kh s i (bif [91,58].isPrefixOf (s.drop i)then none
  else bif [93].isPrefixOf (s.drop i)&&!first then none
  else bif bare then none
  else match s.drop i with|[]=>none|c::_=>some (c,1,true)) (kD (m+3) (first,bare,s,(i:Int),())):=by
  intro bare;unfold kD;simp only;cases hr:s.drop i with
  |nil =>
   rw[hr]at hlen;simp only[qBn]at hlen;rw[bG (by simp;omega),Dh];simp only[oU];cases first<;>cases bare<;>exact⟨_,rfl⟩
  |cons c t =>
   obtain⟨_,hlt⟩:=Uq hr;rw[aQ (by simp;omega),qN hi];simp only[aK];rw[<- hr];cases h4:[91,58].isPrefixOf (s.drop i)
   case true =>
    simp only[dH,Dh,oU,cond_true];exact⟨_,rfl⟩
   simp only[bS,cond_false];rw[qN hi];simp only[aK];have hb:Kh s i (bif bare then none else some (c,1,true)) (br bare (
    ob2 (bY (m+3) (s,(i:Int),())) (λy40=>none) (λy40=>some (.inr (y40.1,y40.2.1,y40.2.2.1,y40.2.2.2.1,())))) (
    jn (nL (m+3)) (s,(i:Int),()))):=by
    cases bare
    ·simp only[bS,cond_false,zNe];rw[xJx hr];rfl
    ·simp only[dH,cond_true,Dh,oU];exact⟨_,rfl⟩
   cases h5:[93].isPrefixOf (s.drop i)
   ·simp only[bS,qFv,cond_false];exact hb
   ·cases first
    ·simp only[dH,qFt,qFw,cond_true,Dh,oU];exact⟨_,rfl⟩
    ·simp only[dH,bS,qCc,qGa,cond_false];exact hb
 simp only[aK,bS,cond_false];rw[qN hi];simp only[aK];cases h6:[45].isPrefixOf (s.drop i)
 ·simp only[bS,qFv];exact yDo false
 simp only[dH,qFw];cases first
 ·simp only[qFt,dH,qFw];cases ends
  ·simp only[qFt,dH,qFw];rw[qN hi];simp only[aK];exact yDo _
  ·simp only[qCc,bS,qFv];exact yDo false
 ·simp only[qCc,bS,qFv];exact yDo false
theorem zZt(a b:UInt8):(a==b)=(b==a):=by rw[qFu,beq_iff_eq,beq_iff_eq];exact eq_comm
def Rk:List UInt8->Option Nat | []=>none | c :: r=>bif [58,93].isPrefixOf (c :: r) then some 0 else (Rk r).map (·+1)
theorem zNi:∀ {r:List UInt8}{k:Nat},Rk r=some k->[58,93].isPrefixOf (r.drop k)=true/\k+2<=r.length
 |[],k,h=>absurd h (by simp[Rk])
 |c::r,k,h=>by
  unfold Rk at h;cases hp:[58,93].isPrefixOf (c::r)<;>simp only[hp,cond_true,cond_false]at h
  ·cases hk:Rk r with
   |none=>rw[hk]at h;exact absurd h (by simp)
   |some j =>
    rw[hk]at h;simp only[Option.map_some,aA]at h;subst h;obtain⟨h1,h2⟩:=zNi hk;exact⟨h1,by simp only[xI];omega⟩
  ·simp only[aA]at h;subst h;exact⟨hp,by have:=mD hp;simpa using this⟩
theorem yBh:∀ r:List UInt8,Go.Lib.index r [58,93]=match Rk r with|some k=>((k:Nat):Int)|none=>-1
 |[]=>by rfl
 |c::r=>by
  have ih:=yBh r;rw[Go.Lib.index,Rk];cases hp:[58,93].isPrefixOf (c::r)
  ·simp only[Bool.false_eq_true,if_false,cond_false];rw[ih];cases Rk r with
   |none=>rfl
   |some k =>
    simp only[Option.map_some];rw[if_neg (by simp)];rfl
  ·rfl
theorem xDr(r:List UInt8):Go.Lib.cut r [58,93]=match Rk r with|some k=>(r.take k,r.drop (k+2),true)|none=>(r,[],false):=by
 unfold Go.Lib.cut;rw[yBh];cases Rk r with
 |none=>rfl
 |some k=>simp
def zCr(first:Bool)(r:List UInt8):Option ((Nat->Bool) × Nat):=
 bif [91,58].isPrefixOf r then
  match Rk (r.drop 2)with
  |none=>none
  |some k=>match zGb ((r.drop 2).take k)with
   |some p=>some (p,k+4)
   |none=>none
 else match Sn first false r with
  |none=>none
  |some (a,k,may)=>
   bif [45].isPrefixOf (r.drop k)&&!([45,93].isPrefixOf (r.drop k))&&decide (1<(r.drop k).length)then
    match Sn false true (r.drop (k+1))with
    |none=>none
    |some (b,m,is)=>bif may&&is&&!(decide (b.toNat<a.toNat))then some (dL a.toNat b.toNat,k+1+m)else none
   else some (dL a.toNat a.toNat,k)
theorem yBi{first:Bool}{r:List UInt8}{p:Nat->Bool}{k:Nat}(h:zCr first r=some (p,k)):1<=k/\k<=r.length:=by
 unfold zCr at h;cases h0:[91,58].isPrefixOf r<;>simp only[h0,cond_true,cond_false]at h
 ·cases h1:Sn first false r with
  |none=>rw[h1]at h;exact absurd h (by simp)
  |some x =>
   obtain⟨a,j,may⟩:=x;have hl:=zNh h1;rw[h1]at h;simp only at h;cases h2:[45].isPrefixOf (r.drop j)&&!([45,93].isPrefixOf (r.drop j))&&decide (1<(r.drop j).length)<;>simp only[h2,cond_true,cond_false]at h
   ·simp only[aA,aC]at h;omega
   ·cases h3:Sn false true (r.drop (j+1))with
    |none=>rw[h3]at h;exact absurd h (by simp)
    |some y =>
     obtain⟨b,m,is⟩:=y;have hl3:=zNh h3;rw[h3]at h;simp only at h;rw[yV]at hl3;cases h4:may&&is&&!(decide (b.toNat<a.toNat))<;>simp only[h4,cond_true,cond_false]at h
     ·exact absurd h (by simp)
     ·simp only[aA,aC]at h;omega
 ·cases h1:Rk (r.drop 2)with
  |none=>rw[h1]at h;exact absurd h (by simp)
  |some j =>
   rw[h1]at h;simp only at h;have:=(zNi h1).2;rw[yV]at this;cases h2:zGb ((r.drop 2).take j)with
   |none=>rw[h2]at h;exact absurd h (by simp)
   |some q =>
    rw[h2]at h;simp only[aA,aC]at h;omega
def zXf(s:List UInt8)(i:Nat)(o:Option ((Nat->Bool) × Nat))(e:Option (Sum (List Int × List UInt8 × Int × Unit) (Int × Int × List UInt8 × Int × Unit))):Prop:=match o with
 |some (p,k)=>e=some (.inl (wd p,s,((i+k:Nat):Int),()))
 |none=>∃ a,e=some (.inr (42,0,s,a,()))
theorem xDs{n:Nat}{s:List UInt8}{i:Nat}{first:Bool}(hn:300<=n)(hi:i<=s.length)(hs:s.length<1000000):zXf s i (zCr first (s.drop i)) (tY n (first,s,(i:Int),())):=by
 unfold tY zCr;simp only;cases h0:[91,58].isPrefixOf (s.drop i)
 case true =>
  have hl:=mD h0;simp only[yV,xI,qBn]at hl;rw[vM hi hs h0];simp only[aK,dH,cond_true];rw[aI (by simp;omega),qCg,strings_Cut,aI (by simp;omega),show([91,58]:List UInt8).length=2 from rfl];simp only[aK];rw[xDr,zT];have hC:=yRg (n:=n) hn;cases h1:Rk (s.drop (i+2))with
  |none =>
   simp only;have h2:=hC (s.drop (i+2));have xBn:∀ (w:Bool),∀ (x:List Int),∃ a,(ob (ρ:=Sum (List Int × List UInt8 × Int × Unit) (Int × Int × List UInt8 × Int × Unit)) (some (x,w)) λy8 =>
    br (!y8.2) (
    ob2 (bY n (s,qEq .i64 (((i+2:Nat):Int)+((s.drop (i+2)).length:Int)),())) (λy9 =>
     none) (λy9 =>
     some (.inr (y9.1,y9.2.1,y9.2.2.1,y9.2.2.2.1,())))) (
    ob (fO n ([58,93],s,qEq .i64 (((i+2:Nat):Int)+((s.drop (i+2)).length:Int)),())) λy10 =>
    br (!y10.1) (
     ob2 (bY n (y10.2.1,y10.2.2.1,())) (λy11 =>
      none) (λy11 =>
      some (.inr (y11.1,y11.2.1,y11.2.2.1,y11.2.2.2.1,())))) (
     some (.inl (y8.1,y10.2.1,y10.2.2.1,())))))=some (.inr (42,0,s,a,())):=by
    intro w x;simp only[aK];cases w
    ·simp only[qFt,dH,Dh,oU];exact⟨_,rfl⟩
    ·simp only[qCc,bS];have e:qEq .i64 (((i+2:Nat):Int)+((s.drop (i+2)).length:Int))=((s.length:Nat):Int):=by
      rw[yV,bD (by omega) (by omega)];omega
     rw[e,vO (aS _) (by simp)];simp only[aK,qFt,dH,Dh,oU];exact⟨_,rfl⟩
   cases hc:zGb (s.drop (i+2))with
   |none=>rw[hc]at h2;rw[h2.1];exact xBn _ _
   |some p=>rw[hc]at h2;rw[h2.1];exact xBn _ _
  |some k =>
   simp only;obtain⟨k1,k2⟩:=zNi h1;rw[yV]at k2;rw[zT]at k1;have h2:=hC ((s.drop (i+2)).take k);have e:qEq .i64 (((i+2:Nat):Int)+(((s.drop (i+2)).take k).length:Int))=((i+2+k:Nat):Int):=by
    rw[qAb,yV,bD (by omega) (by omega)];omega
   rw[e];cases hc:zGb ((s.drop (i+2)).take k)with
   |none =>
    rw[hc]at h2;rw[h2.1];simp only[aK,qFt,dH,Dh,oU];exact⟨_,rfl⟩
   |some p =>
    rw[hc]at h2;rw[h2.1];simp only[aK,qCc,bS];rw[vM (by omega) hs k1];simp only[aK,qCc,bS,zXf];rw[show i+2+k+([58,93]:List UInt8).length=i+(k+4)by simp;omega]
 rw[vO hi h0];simp only[aK,bS,cond_false];have hE:=zXe (n:=n) (first:=first) (ends:=false) (by omega) hi hs;cases h1:Sn first false (s.drop i)with
 |none =>
  rw[h1]at hE;obtain⟨a,hE⟩:=hE;rw[hE];simp only[oU];exact⟨_,rfl⟩
 |some x =>
  obtain⟨a,k,may⟩:=x;rw[h1]at hE;simp only[Kh]at hE;rw[hE];have hk:=zNh h1;rw[yV]at hk;simp only[Xp];have hik:i+k<=s.length:=by omega
  have hR:dW n ((a.toNat:Int),(a.toNat:Int))=some (wd (dL a.toNat a.toNat)):=Pg hn a.toNat_lt a.toNat_lt;rw[qN hik,hR,zT];simp only[aK];cases h2:[45].isPrefixOf (s.drop (i+k))
  ·simp only[qFt,dH,qFv,cond_false];rfl
  simp only[qCc,bS,qFw];rw[qN hik];simp only[aK];cases h3:[45,93].isPrefixOf (s.drop (i+k))
  case true=>simp only[dH,qCc,qFv,cond_false];rfl
  simp only[bS,qFt,qFw];have hp:=mD h2;rw[yV]at hp ⊢;simp only[xI,qBn]at hp;rw[bD (by omega) (by omega)];by_cases h4:1<s.length-(i+k)
  ·rw[aQ (by simp;omega),decide_eq_true h4];simp only[cond_true];have hE2:=zXe (n:=n) (first:=false) (ends:=true) (s:=s) (i:=i+k+1) (by omega) (by omega) hs;rw[show((i+k:Nat):Int)+1=((i+k+1:Nat):Int)from rfl];rw[zT,show i+(k+1)=i+k+1 by omega];cases h5:Sn false true (s.drop (i+k+1))with
   |none =>
    rw[h5]at hE2;obtain⟨a,hE2⟩:=hE2;rw[hE2];simp only[oU];exact⟨_,rfl⟩
   |some y =>
    obtain⟨b,m,is⟩:=y;rw[h5]at hE2;simp only[Kh]at hE2;rw[hE2];simp only[Xp,Dh,oU];cases may
    ·simp only[qFt,dH,qFv,cond_false];exact⟨_,rfl⟩
    cases is
    ·simp only[qFt,dH,qCc,bS,qGa,qFv,cond_false];exact⟨_,rfl⟩
    have hR2:dW n ((a.toNat:Int),(b.toNat:Int))=some (wd (dL a.toNat b.toNat)):=Pg hn a.toNat_lt b.toNat_lt;rw[hR2,show decide ((b.toNat:Int)<(a.toNat:Int))=decide (b.toNat<a.toNat)by simp];cases decide (b.toNat<a.toNat)
    ·simp only[qFt,qCc,bS,qEj,cond_true,aK,zXf];rw[show i+(k+1+m)=i+k+1+m by omega]
    ·simp only[qCc,bS,dH,qGa,cond_false];exact⟨_,rfl⟩
  ·rw[bG (by simp;omega),decide_eq_false h4];rfl
def Vp:Nat->Bool->(Nat->Bool)->List UInt8->Option ((Nat->Bool) × Nat)
 |0,_,_,_=>none
 |f+1,first,q,r =>
  bif [93].isPrefixOf r&&!first then some (q,1)
  else match zCr first r with
   |none=>none
   |some (p,k)=>match Vp f false (λj=>q j||p j) (r.drop k)with
    |none=>none
    |some (x,m)=>some (x,k+m)
def Gn (p:Nat->Bool):Bool:=(qAr 256).all fun i=>!p i
def zNj(s:List UInt8):Option ((Nat->Bool) × Nat):=
 bif [91].isPrefixOf s then
  let no:=[94].isPrefixOf (s.drop 1)
  let i:=bif no then 2 else 1
  match Vp (s.length+1) true (λ_=>false) (s.drop i)with
  |none=>none
  |some (p,k)=>
   let p':=bif no then(λj=>!p j)else p
   bif Gn p' then none else some (p',i+k)
 else none
theorem yId:∀ {f:Nat}{first:Bool}{q:Nat->Bool}{r:List UInt8}{p:Nat->Bool}{k:Nat},Vp f first q r=some (p,k)->1<=k/\k<=r.length
 |0,_,_,_,_,_,h=>absurd h (by simp[Vp])
 |f+1,first,q,r,p,k,h=>by
  unfold Vp at h;cases h0:[93].isPrefixOf r&&!first<;>simp only[h0,cond_true,cond_false]at h
  ·cases h1:zCr first r with
   |none=>rw[h1]at h;exact absurd h (by simp)
   |some x =>
    obtain⟨p1,k1⟩:=x;rw[h1]at h;simp only at h;have hk1:=yBi h1;cases h2:Vp f false (λj=>q j||p1 j) (r.drop k1)with
    |none=>rw[h2]at h;exact absurd h (by simp)
    |some y =>
     obtain⟨p2,k2⟩:=y;rw[h2]at h;have hk2:=yId h2;rw[yV]at hk2;simp only[aA,aC]at h;omega
  ·simp only[aD]at h0;have:=mD h0.1;simp only[xI,qBn,aA,aC]at this h;omega
theorem yIe{s:List UInt8}{p:Nat->Bool}{k:Nat}(h:zNj s=some (p,k)):1<=k/\k<=s.length:=by
 unfold zNj at h;cases h0:[91].isPrefixOf s<;>simp only[h0,cond_true,cond_false]at h
 ·exact absurd h (by simp)
 ·cases h1:Vp (s.length+1) true (λ_=>false) (s.drop (bif [94].isPrefixOf (s.drop 1)then 2 else 1))with
  |none=>rw[h1]at h;exact absurd h (by simp)
  |some x =>
   obtain⟨q,j⟩:=x;rw[h1]at h;have hj:=yId h1;rw[yV]at hj;simp only at h;cases h2:Gn (bif [94].isPrefixOf (s.drop 1)then(λj=>!q j)else q)<;>simp only[h2,cond_true,cond_false]at h
   ·simp only[aA,aC]at h;omega
   ·exact absurd h (by simp)
theorem Gp{p:Nat->Bool}:Ty.beq (.arr 4 (.int .u64)) (wd p) [0,0,0,0]=Gn p:=by
 rw[qFu,<- xQ,xLy,xQ,xHm,Gn,qFb];simp
def zNk(s:List UInt8)(i:Nat)(no:Bool)(o:Option ((Nat->Bool) × Nat))(e:Option (Sum (List Int × List UInt8 × Int × Unit) (Int × Int × List Int × List UInt8 × Int × Unit))):Prop:=match o with
 |some (p,k)=>bif Gn (bif no then(λj=>!p j)else p)then ∃ a w,e=some (.inr (42,0,w,s,a,()))else e=some (.inl (wd (bif no then(λj=>!p j)else p),s,((i+k:Nat):Int),()))
 |none=>∃ a w,e=some (.inr (42,0,w,s,a,()))
theorem yZh{n:Nat}{s:List UInt8}{no:Bool}(hn:300<=n)(hs:s.length<1000000):∀ (f:Nat) (i m:Nat) (first:Bool) (q:Nat->Bool),i<=s.length->s.length-i<f->f<=m ->
 zNk s i no (Vp f first q (s.drop i)) (fix (qX n) m (no,first,wd q,s,(i:Int),())):=by
 intro f;induction f with
 |zero=>intro i m first q _ h;omega
 |succ f ih =>
  intro i m first q hi hf hm
  rw[lZ (by omega),qX];simp only;have hO:∀ p:Nat->Bool,vV n [wd q,wd p]=some (wd λj=>q j||p j):=by
   intro p;have:=yBg (n:=n) [q,p] (by omega) (by simp;omega) (by simp);simpa using this
  have hpart:zNk s i no (match zCr first (s.drop i)with
   |none=>none
   |some (p,k)=>match Vp f false (λj=>q j||p j) ((s.drop i).drop k)with
    |none=>none
    |some (x,m)=>some (x,k+m)) (ob2 (tY n (first,s,(i:Int),())) (λy13 =>
   ob (vV n [wd q,y13.1]) λy14 =>
   fix (qX n) (m-1) (no,false,y14,y13.2.1,y13.2.2.1,())) (λy13 =>
   some (.inr (y13.1,y13.2.1,wd q,y13.2.2.1,y13.2.2.2.1,())))):=by
   have hp:=xDs (n:=n) (first:=first) hn hi hs;cases h1:zCr first (s.drop i)with
   |none =>
    rw[h1]at hp;obtain⟨a,hp⟩:=hp;rw[hp];exact⟨_,_,rfl⟩
   |some x =>
    obtain⟨p,k⟩:=x;rw[h1]at hp;simp only[zXf]at hp;have hk:=yBi h1;rw[yV]at hk;rw[hp];simp only[Xp];rw[hO p];simp only[aK];have:=ih (i+k) (m-1) false (λj=>q j||p j) (by omega) (by omega) (by omega);rw[zT];cases h2:Vp f false (λj=>q j||p j) (s.drop (i+k))with
    |none=>rw[h2]at this;exact this
    |some y =>
     obtain⟨p2,k2⟩:=y;rw[h2]at this;simp only[zNk]at this ⊢;rw[show i+(k+k2)=i+k+k2 by omega];exact this
  unfold Vp;cases first
  case true =>
   simp only[dH,qCc,qGa,cond_false];exact hpart
  simp only[bS,qFt,qEj];cases h0:[93].isPrefixOf (s.drop i)
  ·rw[vO hi h0];simp only[aK,qFt,dH,cond_false];exact hpart
  ·rw[vM hi hs h0];simp only[aK,qCc,bS,cond_true,zNk];cases no
   ·simp only[bS,cond_false];cases hq:Gn q
    ·simp only[cond_false];rw[aQ (by exact Gp.trans hq)];rfl
    ·simp only[cond_true];refine⟨((i+[93].length:Nat):Int),wd q,?_⟩;rw[bG (by exact Gp.trans hq)];rfl
   ·simp only[dH,cond_true,zXc (n:=n) (by omega),aK];cases hq:Gn (λj=>!q j)
    ·simp only[cond_false];rw[aQ (by exact Gp.trans hq)];rfl
    ·simp only[cond_true];refine⟨((i+[93].length:Nat):Int),wd (λj=>!q j),?_⟩;rw[bG (by exact Gp.trans hq)];rfl
def yZi:Option ((Nat->Bool)×Nat)->List Int×Int×Int | some (p,k)=>(wd p,((k:Nat):Int),0) | none=>([0,0,0,0],0,42)
theorem zZu{n:Nat}{s:List UInt8}(hn:400<=n)(hsn:s.length+10<n)(hs:s.length<1000000):yS n s=some (yZi (zNj s)):=by
 have hT:∀ e:Option (Sum (List Int × List UInt8 × Int × Unit) (Int × Int × List Int × List UInt8 × Int × Unit)),qK n ([0,0,0,0],s,0,())=e->yS n s=ob (ob2 e (λy=>some (0,0,y)) (λy=>some y)) λy1=>br (y1.1 != 0) (some ([0,0,0,0],0,y1.1)) (some (y1.2.2.1,y1.2.2.2.2.1,0)):=by
  intro e he;unfold yS iQ;simp only;rw[he]
 have hB:∀ a w,qK n ([0,0,0,0],s,0,())=some (.inr (42,0,w,s,a,()))->yS n s=some ([0,0,0,0],0,42):=by
  intro a w h;rw[hT _ h];rfl
 have h0:qK n ([0,0,0,0],s,0,())=br (![91].isPrefixOf s) (some (.inr (42,0,[0,0,0,0],s,0,()))) (fix (qX n) n ([94].isPrefixOf (s.drop 1),true,wd (λ_=>false),s,((bif [94].isPrefixOf (s.drop 1)then 2 else 1:Nat):Int),())):=by
  unfold qK;simp only;rw[show(0:Int)=((0:Nat):Int)from rfl];cases h1:[91].isPrefixOf s
  ·rw[vO (by omega) (by rw[qEk];exact h1)];rfl
  ·rw[vM (by omega) hs (by rw[qEk];exact h1)];have hl:=mD h1;simp only[xI,qBn]at hl;simp only[aK,qCc,bS];rw[show 0+([91]:List UInt8).length=1 from rfl];cases h2:[94].isPrefixOf (s.drop 1)
   ·rw[vO (by omega) h2,xQ];rfl
   ·rw[vM (by omega) hs h2,xQ];rfl
 unfold zNj;cases h1:[91].isPrefixOf s
 ·rw[h1]at h0;simp only[qFt,dH]at h0;rw[hB _ _ h0];rfl
 ·rw[h1]at h0;simp only[qCc,bS]at h0;simp only[cond_true];have hi:(bif [94].isPrefixOf (s.drop 1)then 2 else 1)<=s.length:=by
   have hl:=mD h1;simp only[xI,qBn]at hl;cases h2:[94].isPrefixOf (s.drop 1)
   ·simp only[cond_false];omega
   ·have hl2:=mD h2;rw[yV]at hl2;simp only[xI,qBn]at hl2;simp only[cond_true];omega
  have hL:=yZh (n:=n) (s:=s) (no:=[94].isPrefixOf (s.drop 1)) (by omega) hs (s.length+1) _ n true (λ_=>false) hi (by omega) (by omega);rw[<- h0]at hL;cases h3:Vp (s.length+1) true (λ_=>false) (s.drop (bif [94].isPrefixOf (s.drop 1)then 2 else 1))with
  |none =>
   rw[h3]at hL;obtain⟨a,w,hL⟩:=hL;rw[hB _ _ hL];rfl
  |some x =>
   obtain⟨p,k⟩:=x;rw[h3]at hL;simp only[zNk]at hL;simp only;cases h4:Gn (bif [94].isPrefixOf (s.drop 1)then(λj=>!p j)else p)<;>rw[h4]at hL<;>simp only[cond_true,cond_false]at hL ⊢
   ·rw[hT _ hL];rfl
   ·obtain⟨a,w,hL⟩:=hL;rw[hB _ _ hL];rfl
abbrev Nd:Type:=Int × List Int × Int × Int × Int × Int × Int × Unit
abbrev RdT:Type:=List UInt8 × Int × Int × List Bool × List Nd × Unit
inductive Pt where
 |empty|bol|eol
 |bytes (p:Nat->Bool)
 |cat (a b:Pt)|alt (a b:Pt)
 |times (a:Pt) (lo hi:Int)
 |group (a:Pt) (n:Nat)
 |ref (n:Nat)
def Pt.sz:Pt->Nat | .cat a b=>a.sz+b.sz+1 | .alt a b=>a.sz+b.sz+1 | .times a _ _=>a.sz+1 | .group a _=>a.sz+1 | _=>1
theorem Pt.Cu:∀ t:Pt,1<=t.sz
 |.empty|.bol|.eol|.bytes _|.ref _=>aS _
 |.cat _ _|.alt _ _|.times _ _ _|.group _ _=>Nat.le_add_left _ _
def Pt.top (o:Nat) (t:Pt):Int:=((o+t.sz:Nat):Int) - 1
def Pt.enc (o:Nat):Pt->List Nd | .empty=>[(0,[0,0,0,0],0,0,0,0,0,())] | .bol=>[(2,[0,0,0,0],0,0,0,0,0,())] | .eol=>[(3,[0,0,0,0],0,0,0,0,0,())] | .bytes p=>[(1,wd p,0,0,0,0,0,())] | .cat a b=>a.enc o++b.enc (o+a.sz)++[(4,[0,0,0,0],a.top o,b.top (o+a.sz),0,0,0,())] | .alt a b=>a.enc o++b.enc (o+a.sz)++[(5,[0,0,0,0],a.top o,b.top (o+a.sz),0,0,0,())] | .times a lo hi=>a.enc o++[(6,[0,0,0,0],a.top o,0,lo,hi,0,())] | .group a n=>a.enc o++[(7,[0,0,0,0],a.top o,0,0,0,(n:Int),())] | .ref n=>[(8,[0,0,0,0],0,0,0,0,(n:Int),())]
theorem Pt.iW:∀ (t:Pt) (o:Nat),(t.enc o).length=t.sz
 |.empty,_|.bol,_|.eol,_|.bytes _,_|.ref _,_=>rfl
 |.cat a b,o=>by simp[Pt.enc,Pt.sz,Pt.iW a,Pt.iW b];omega
 |.alt a b,o=>by simp[Pt.enc,Pt.sz,Pt.iW a,Pt.iW b];omega
 |.times a _ _,o=>by simp[Pt.enc,Pt.sz,Pt.iW a]
 |.group a _,o=>by simp[Pt.enc,Pt.sz,Pt.iW a]
inductive Res (α:Type) where
 |ok (a:α) (r:List UInt8) (b:Nat) (en:List Bool)
 |er (e k:Nat)
def Ao (r:List UInt8):Bool:=r.isEmpty||[92,41].isPrefixOf r
def Gq:List UInt8:=[46,91,92,42,94,36,47]
def nY:Nat->List UInt8->Nat | 0,_=>0 | _+1,[]=>0 | m+1,c :: r=>bif isDigit c then nY m r+1 else 0
def Jd (r:List UInt8):Option Nat×List UInt8 :=let k:=nY 3 r
 (bif k==0 then none else some (yPc (r.take k)),r.drop k)
def zIk (t:Pt) (lo hi:Int) (r:List UInt8) (b:Nat) (en:List Bool):Res Pt :=bif [42].isPrefixOf r||[92,123].isPrefixOf r then .er 43 r.length else .ok (.times t lo hi) r b en
def Ph(t:Pt)(r:List UInt8)(b:Nat)(en:List Bool):Res Pt :=
 bif [42].isPrefixOf r then zIk t 0 (-1) (r.drop 1) b en
 else bif [92,123].isPrefixOf r then
  match Jd (r.drop 2)with
  |(none,_)=>.er 43 r.length
  |(some lo,r1)=>
   bif [44].isPrefixOf r1 then
    match Jd (r1.drop 1)with
    |(none,r2)=>bif [92,125].isPrefixOf r2&&decide (lo<=255)then zIk t lo (-1) (r2.drop 2) b en else .er 43 r.length
    |(some hi,r2)=>bif [92,125].isPrefixOf r2&&decide (lo<=255)&&decide (hi<=255)&&decide (lo<=hi)&&decide (1<=hi)then zIk t lo hi (r2.drop 2) b en else .er 43 r.length
   else bif [92,125].isPrefixOf r1&&decide (lo<=255)&&decide (1<=lo)then zIk t lo lo (r1.drop 2) b en else .er 43 r.length
 else .ok t r b en
def zIl (c:UInt8):Nat->Bool:=fun i=>decide (i = c.toNat)
def Ig(nP:List UInt8->Nat->List Bool->Res (Option Pt))(first:Bool)(r:List UInt8)(b:Nat)(en:List Bool):Res Pt :=
 match r with
 |[]=>.er 40 0
 |c::r1 =>
  bif c==46 then .ok (.bytes λ_=>true) r1 b en
  else bif c==91 then
   match zNj r with
   |none=>.er 42 r.length
   |some (p,k)=>.ok (.bytes p) (r.drop k) b en
  else bif c==92 then
   match r1 with
   |[]=>.er 40 r.length
   |d::r2 =>
    bif d==40 then
     bif b==9 then .er 41 r.length
     else match nP r2 (b+1) en with
      |.er e k=>.er e k
      |.ok none _ _ _=>.er 41 r.length
      |.ok (some t) r3 b3 en3=>bif [92,41].isPrefixOf r3 then .ok (.group t (b+1)) (r3.drop 2) b3 (en3.set (b+1) true)else .er 41 r.length
    else bif decide (49<=d.toNat)&&decide (d.toNat<=57)then
     bif en.getD (d.toNat-48) false then .ok (.ref (d.toNat-48)) r2 b en else .er 44 r.length
    else bif d==110 then .ok (.bytes (zIl 10)) r2 b en
    else bif Gq.contains d then .ok (.bytes (zIl d)) r2 b en
    else bif d==123&&first then .er 43 r.length
    else .er 40 r.length
  else .ok (.bytes (zIl c)) r1 b en
def yF(nP:List UInt8->Nat->List Bool->Res (Option Pt)):Nat->Bool->List UInt8->Nat->List Bool->List Pt->Res (List Pt)
 |0,_,_,_,_,_=>.er 0 0
 |f+1,first,r,b,en,acc =>
  bif Ao r then .ok acc r b en
  else bif [36].isPrefixOf r&&Ao (r.drop 1)then .ok (acc++[.eol]) (r.drop 1) b en
  else match Ig nP first r b en with
   |.er e k=>.er e k
   |.ok t r1 b1 en1=>match Ph t r1 b1 en1 with
    |.er e k=>.er e k
    |.ok t2 r2 b2 en2=>yF nP f false r2 b2 en2 (acc++[t2])
def Rl:List Pt->Option Pt
 |[]=>none
 |t::ts=>match Rl ts with
  |none=>some t
  |some u=>some (.cat t u)
def nP:Nat->List UInt8->Nat->List Bool->Res (Option Pt)
 |0,_,_,_=>.er 0 0
 |f+1,r,b,en =>
  let bol:=[94].isPrefixOf r
  let r1:=bif bol then r.drop 1 else r
  match yF (nP f) (r1.length+1) true r1 b en (bif bol then [.bol]else [])with
  |.er e k=>.er e k
  |.ok ts r2 b2 en2=>.ok (Rl ts) r2 b2 en2
def zAv:List Bool:=[false,false,false,false,false,false,false,false,false,false]
def zAw(s:List UInt8):Sum Pt (Nat × Nat):=
 match s with
 |[]=>.inl .empty
 |_=>match nP 11 s 0 zAv with
  |.er e k=>.inr (e,s.length-k)
  |.ok t r _ _ =>
   match r with
   |[]=>match t with
    |none=>.inr (41,s.length)
    |some t=>bif decide (t.sz>120)then .inr (2,0)else .inl t
   |_=>.inr (41,s.length-r.length)
def psn (s r:List UInt8):Int:=((s.length-r.length:Nat):Int)
theorem zAx{r s:List UInt8}(h:r <:+ s):s.drop (s.length-r.length)=r:=(List.suffix_iff_eq_drop.1 h).symm
theorem Pj{r s:List UInt8}(h:r <:+ s):r.length<=s.length:=h.length_le
theorem Ki{r s:List UInt8}(h:r <:+ s)(k:Nat):r.drop k <:+ s:=(qFx k r).trans h
theorem yIf{r s:List UInt8}(h:r <:+ s){k:Nat}(hk:k<=r.length):psn s (r.drop k)=psn s r+k:=by
 have:=Pj h;unfold psn;rw[yV];omega
theorem Gr{r s:List UInt8}(h:r <:+ s)(hs:s.length<1000000){k:Nat}(hk:k<=r.length):qEq .i64 (psn s r+(k:Int))=psn s (r.drop k):=by
 have:=Pj h;rw[yIf h hk,bD (by unfold psn;omega) (by unfold psn;omega)]
theorem yUx{r s:List UInt8}(h:r <:+ s):(decide (0<=psn s r)&&decide (psn s r<=(s.length:Int)))=true:=by
 unfold psn;simp
theorem Xy(r s:List UInt8):(psn s r).toNat=s.length-r.length:=qCg _
theorem yMq{r s:List UInt8}(h:r <:+ s){j:Nat}{c d:UInt8}(hj:r[j]?=some c):aM d s (psn s r+(j:Int))=c:=by
 unfold psn;rw[show((s.length-r.length:Nat):Int)+(j:Int)=((s.length-r.length+j:Nat):Int)by omega];exact zIj (by rw[zAx h];exact hj)
theorem zZv{r s:List UInt8}(h:r <:+ s):(psn s r==(s.length:Int))=r.isEmpty:=by
 have:=Pj h;rw[qFu,beq_iff_eq,List.isEmpty_iff_length_eq_zero];unfold psn;omega
section
variable {n:Nat}{s r t:List UInt8}{b:Int}{en:List Bool}{l:List Nd}
theorem Cg(h:r <:+ s):bL n (t,s,psn s r,b,en,l,())=some (t.isPrefixOf r,s,psn s r,b,en,l,()):=by
 unfold bL;simp only;rw[aI (yUx h),zAu,Xy,zAx h];rfl
theorem yG(h:r <:+ s)(hs:s.length<1000000)(ht:t.isPrefixOf r=true):dQ n (t,s,psn s r,b,en,l,())=some (true,s,psn s (r.drop t.length),b,en,l,()):=by
 unfold dQ;simp only;rw[Cg h];simp only[aK,ht,qCc,bS];rw[Gr h hs (mD ht)]
theorem yH(h:r <:+ s)(ht:t.isPrefixOf r=false):dQ n (t,s,psn s r,b,en,l,())=some (false,s,psn s r,b,en,l,()):=by
 unfold dQ;simp only;rw[Cg h];simp only[aK,ht,qFt,dH]
theorem zAy{at' k a c mi ma nn:Int}{w:List Int}(hl:l.length<1000000):dJ n (k,w,a,c,mi,ma,nn,s,at',b,en,l,())=some (((l.length:Nat):Int),s,at',b,en,l++[(k,w,a,c,mi,ma,nn,())],()):=by
 unfold dJ;simp only;rw[aI (by simp[room];omega)];simp only[xG,xI,qBn];rw[bD (by omega) (by omega)];congr 2;omega
theorem yUy(h:r <:+ s):uL n (s,psn s r,b,en,l,())=some (Ao r,s,psn s r,b,en,l,()):=by
 unfold uL;simp only;rw[zZv h,Cg h];unfold Ao;cases r.isEmpty<;>rfl
theorem yZj{p:Nat->Bool}{at':Int}(hl:l.length<1000000):dZ n (wd p,s,at',b,en,l,())=some (((l.length:Nat):Int),s,at',b,en,l++(Pt.bytes p).enc l.length,()):=by
 unfold dZ;simp only;rw[zAy hl];rfl
theorem iX{x:Int × Int × RdT}:aR n x=some (.inr x):=rfl
theorem yMr:∀ (m:Nat) (r:List UInt8),nY m r<=m/\nY m r<=r.length
 |0,_=>by simp[nY]
 |m+1,[]=>by simp[nY]
 |m+1,c::r=>by
  have:=yMr m r;unfold nY;cases isDigit c<;>simp<;>omega
theorem yIg:∀ (m:Nat) (r:List UInt8),(r.take (nY m r)).all isDigit=true
 |0,_=>by simp[nY]
 |m+1,[]=>by simp[nY]
 |m+1,c::r=>by
  have:=yIg m r;unfold nY;cases h:isDigit c
  ·simp
  ·simp[h,this]
def zIm:Option Nat->Int | none => -1 | some k=>(k:Int)
theorem Ku(h:r <:+ s)(hs:s.length<1000000):(chk ((decide (0<=psn s (r.drop (nY 3 r)))&&decide (psn s (r.drop (nY 3 r))<=(s.length:Int))&&(decide (0<=psn s r)&&decide (psn s r<=psn s (r.drop (nY 3 r)))))) (
  ob (strconv_Atoi n ((s.take (psn s (r.drop (nY 3 r))).toNat).drop (psn s r).toNat)) λy24 =>
  br (!(!y24.2)) (
   some ((-1),s,psn s (r.drop (nY 3 r)),b,en,l,())) (
   some (y24.1,s,psn s (r.drop (nY 3 r)),b,en,l,()))))=some (zIm (Jd r).1,s,psn s (Jd r).2,b,en,l,()):=by
 have hk:=yMr 3 r;have hl:=Pj h;rw[aI (by rw[yIf h hk.2];unfold psn;simp;omega)];have e:(s.take (psn s (r.drop (nY 3 r))).toNat).drop (psn s r).toNat=r.take (nY 3 r):=by
  rw[Xy,Xy,qAl,zAx h,yV];congr 1;omega
 rw[e];have hall:=yIg 3 r;simp only[Jd];cases hd:nY 3 r with
 |zero=>simp[strconv_Atoi,zIm];rfl
 |succ k =>
  cases r with
  |nil=>rw[hd]at hk;simp at hk
  |cons c r =>
   rw[hd]at hall hk;unfold strconv_Atoi;rw[aI (by
    rw[aD];refine⟨?_,hall⟩;rw[Nat.ble_eq,qAb];omega)]
   simp[zIm]
theorem yBj(h:r <:+ s)(hs:s.length<1000000)(hn:10<=n):qG n (s,psn s r,b,en,l,())=some (zIm (Jd r).1,s,psn s (Jd r).2,b,en,l,()):=by
 unfold qG;simp only;have hl:=Pj h;have key:∀ (j m:Nat) (r':List UInt8),r'=r.drop j->j+nY (3-j) r'=nY 3 r->j<=3->j<=r.length->4-j<=m->fix (qQ n) m (psn s r',s,psn s r,b,en,l,())=some (zIm (Jd r).1,s,psn s (Jd r).2,b,en,l,()):=by
  intro j;induction hm:3-j generalizing j with
  |zero =>
   intro m r' hr' hd hj hjl hmm;have hj3:j=3:=by omega
   rw[lZ (by omega),qQ];simp only;have e:nY 3 r=j:=by rw[<- hd];simp[nY]
   have er:r'=r.drop (nY 3 r):=by rw[e];exact hr'
   have hlim:decide (psn s r'<qEq .i64 (psn s r+3))=false:=by
    rw[hr',show(3:Int)=((3:Nat):Int)from rfl,Gr h hs (by omega),hj3];simp
   rw[er]at hlim ⊢;rw[hlim];by_cases hlt:psn s (r.drop (nY 3 r))<(s.length:Int)
   ·rw[bG (decide_eq_true hlt),bS];exact Ku h hs
   ·rw[aQ (decide_eq_false hlt)];exact Ku h hs
  |succ q ih =>
   intro m r' hr' hd hj hjl hmm;have yZk:r' <:+ s:=by rw[hr'];exact Ki h j
   rw[lZ (by omega),qQ];simp only;have hlim:decide (psn s r'<qEq .i64 (psn s r+3))=true:=by
    rw[hr',yIf h hjl,bD (by unfold psn;omega) (by unfold psn;omega)];simp;omega
   cases hc:r' with
   |nil =>
    rw[hc]at hd;have e:nY 3 r=j:=by rw[<- hd];rfl
    have er:r'=r.drop (nY 3 r):=by rw[e];exact hr'
    rw[<- hc,aQ (by unfold psn;rw[hc];simp),er];exact Ku h hs
   |cons c r2 =>
    rw[<- hc];rw[hc]at hd;have hlr:r'.length=r2.length+1:=by rw[hc];rfl
    have hle:=Pj yZk;have hg:aM 0 s (psn s r')=c:=by
     have:=yMq (d:=0) yZk (j:=0) (c:=c) (by rw[hc];rfl);simpa using this
    have hib:inB (psn s r') s.length=true:=bI (by unfold psn;omega) (by unfold psn;omega);rw[bG (by unfold psn;simp;omega),bG hlim,aI hib,aI hib,hg];have hdd:nY (q+1) (c::r2)=bif isDigit c then nY q r2+1 else 0:=rfl
    rw[hdd]at hd;cases hdg:isDigit c
    ·rw[hdg]at hd;simp only[cond_false,qAa]at hd;have er:r'=r.drop (nY 3 r):=by rw[<- hd];exact hr'
     unfold isDigit at hdg;have hfin:=Ku (n:=n) (b:=b) (en:=en) (l:=l) h hs;rw[<- er]at hfin;by_cases h48:48<=c.toNat
     ·rw[bG (by simp;omega)];have h57:¬ c.toNat<=57:=by
       intro h57;simp[h48,h57]at hdg
      rw[aQ (by simp;omega)];exact hfin
     ·rw[aQ (by simp;omega)];exact hfin
    ·rw[hdg]at hd;simp only[cond_true]at hd;unfold isDigit at hdg;simp only[aD,decide_eq_true_eq]at hdg;rw[bG (by simp;omega),bG (by simp;omega)];have hr2:r2=r.drop (j+1):=by rw[<- zT,<- hr',hc];rfl
     have hp:qEq .i64 (psn s r'+1)=psn s r2:=by
      have:=Gr yZk hs (k:=1) (by omega);rw[hc]at this ⊢;exact this
     rw[hp];exact ih (j+1) (by omega) (m-1) r2 hr2 (by rw[<- hd];omega) (by omega) (by rw[hr',yV]at hlr;omega) (by omega)
 have:=key 0 n r (by simp) (by simp) (by omega) (by omega) (by omega);exact this
end
end Go.Dec
namespace Go.Dec
def POK(s:List UInt8)(l:List Nd)(o:Res Pt)(e:Option (Sum (Int × RdT) (Int × Int × RdT))):Prop:=match o with
 |.ok t r b en=>e=some (.inl (t.top l.length,s,psn s r,(b:Int),en,l++t.enc l.length,()))
 |.er c k=>∃ x:RdT,e=some (.inr ((c:Int),((s.length-k:Nat):Int),x))
section
variable {n:Nat}{s r:List UInt8}{b:Nat}{en:List Bool}{l:List Nd}
theorem yRh(k:Nat):((k:Int)==(-1))=false:=by rw[qGh,ne_eq,beq_iff_eq];omega
theorem xBo(k:Nat):((k:Int) != (-1))=true:=by rw[bne,yRh];rfl
theorem zXg{t:Pt}{lo hi:Int}(h:r <:+ s)(hl:l.length+t.sz<900000):POK s l (zIk t lo hi r b en) (
 ob (dJ n (6,[0,0,0,0],t.top l.length,0,lo,hi,0,s,psn s r,(b:Int),en,l++t.enc l.length,())) λy8 =>
 ob (bL n ([42],y8.2.1,y8.2.2.1,y8.2.2.2.1,y8.2.2.2.2.1,y8.2.2.2.2.2.1,())) λy9 =>
 br y9.1 (
  ob2 (aR n (43,y9.2.2.1,y9.2.1,y9.2.2.1,y9.2.2.2.1,y9.2.2.2.2.1,y9.2.2.2.2.2.1,())) (λy10 =>
   none) (λy10 =>
   some (.inr (y10.1,y10.2.1,y10.2.2.1,y10.2.2.2.1,y10.2.2.2.2.1,y10.2.2.2.2.2.1,y10.2.2.2.2.2.2.1,())))) (
  ob (bL n ([92,123],y9.2.1,y9.2.2.1,y9.2.2.2.1,y9.2.2.2.2.1,y9.2.2.2.2.2.1,())) λy11 =>
  br y11.1 (
   ob2 (aR n (43,y11.2.2.1,y11.2.1,y11.2.2.1,y11.2.2.2.1,y11.2.2.2.2.1,y11.2.2.2.2.2.1,())) (λy12 =>
    none) (λy12 =>
    some (.inr (y12.1,y12.2.1,y12.2.2.1,y12.2.2.2.1,y12.2.2.2.2.1,y12.2.2.2.2.2.1,y12.2.2.2.2.2.2.1,())))) (
   some (.inl (y8.1,y11.2.1,y11.2.2.1,y11.2.2.2.1,y11.2.2.2.2.1,y11.2.2.2.2.2.1,()))))):=by
 rw[zAy (by rw[xG,Pt.iW];omega)];simp only[aK];rw[Cg h];simp only[aK];unfold zIk;cases [42].isPrefixOf r
 ·simp only[bS,qGp];rw[Cg h];simp only[aK];cases [92,123].isPrefixOf r
  ·simp only[bS,cond_false,POK,Pt.enc,Pt.top,Pt.sz,xG,Pt.iW,wE];congr 3;omega
  ·simp only[dH,cond_true,iX,oU];exact⟨_,rfl⟩
 ·simp only[dH,Bool.true_or,cond_true,iX,oU];exact⟨_,rfl⟩
theorem yZl{t:Pt}(h:r <:+ s)(hs:s.length<1000000)(hn:10<=n)(hl:l.length+t.sz<900000):POK s l (Ph t r b en) (vX n (t.top l.length,s,psn s r,(b:Int),en,l++t.enc l.length,())):=by
 unfold vX Ph;simp only;cases h1:[42].isPrefixOf r
 case true =>
  rw[yG h hs h1];simp only[aK,dH,cond_true];exact zXg (Ki h 1) hl
 rw[yH h h1];simp only[aK,bS,cond_false];cases h2:[92,123].isPrefixOf r
 case false =>
  rw[yH h h2];simp only[aK,qFt,dH,cond_false,POK]
 rw[yG h hs h2];simp only[aK,qCc,bS,cond_true];have hg:∀ {x:RdT},POK s l (.er 43 r.length) (some (.inr (43,psn s r,x))):=λ{x}=>⟨x,rfl⟩
 have s2:r.drop 2 <:+ s:=Ki h 2;rw[show([92,123]:List UInt8).length=2 from rfl,yBj s2 hs hn];have n2:(Jd (r.drop 2)).2 <:+ s:=Ki s2 _;cases hlo:Jd (r.drop 2)with
 |mk lo r1 =>
  rw[hlo]at n2;simp only[aK]at n2 ⊢;cases h3:[44].isPrefixOf r1
  ·rw[yH n2 h3];simp only[aK,bS];cases lo with
   |none =>
    simp only[zIm];rw[bG (by rfl),iX];exact hg
   |some lo =>
    simp only[zIm,h3,cond_false];rw[aQ (yRh lo)];cases h4:[92,125].isPrefixOf r1
    ·rw[yH n2 h4];simp only[aK,qFt,dH,iX,oU,qFv,cond_false];exact hg
    rw[yG n2 hs h4];simp only[aK,qCc,bS,qFw];by_cases h5:lo<=255
    ·rw[aQ (by simp;omega),aQ (by simp;omega),bG (xBo lo),decide_eq_true h5];by_cases h6:1<=lo
     ·rw[aQ (by simp;split<;>omega),decide_eq_true h6];exact zXg (Ki n2 2) hl
     ·rw[bG (by simp;omega),decide_eq_false h6,iX];exact hg
    ·rw[bG (by simp;omega),decide_eq_false h5,iX];exact hg
  ·rw[yG n2 hs h3];simp only[aK,dH];have s3:r1.drop 1 <:+ s:=Ki n2 1;rw[show([44]:List UInt8).length=1 from rfl,yBj s3 hs hn];have n3:(Jd (r1.drop 1)).2 <:+ s:=Ki s3 _;cases hhi:Jd (r1.drop 1)with
   |mk hi r2 =>
    rw[hhi]at n3;simp only[aK]at n3 ⊢;cases lo with
    |none =>
     simp only[zIm];rw[bG (by rfl),iX];exact hg
    |some lo =>
     simp only[zIm,h3,cond_true];rw[aQ (yRh lo)];cases hi with
     |none =>
      simp only[hhi];cases h4:[92,125].isPrefixOf r2
      ·rw[yH n3 h4];simp only[aK,qFt,dH,iX,oU,qFv,cond_false];exact hg
      rw[yG n3 hs h4];simp only[aK,qCc,bS,qFw];by_cases h5:lo<=255
      ·rw[aQ (by simp;omega),decide_eq_true h5,aQ (by rfl),aQ (by rfl)];exact zXg (Ki n3 2) hl
      ·rw[bG (by simp;omega),decide_eq_false h5,iX];exact hg
     |some hi =>
      simp only[hhi];cases h4:[92,125].isPrefixOf r2
      ·rw[yH n3 h4];simp only[aK,qFt,dH,iX,oU,qFv,cond_false];exact hg
      rw[yG n3 hs h4];simp only[aK,qCc,bS,qFw];by_cases h5:lo<=255
      ·rw[aQ (by simp;omega),decide_eq_true h5];by_cases h6:hi<=255
       ·rw[aQ (by simp;omega),bG (xBo hi),decide_eq_true h6];by_cases h7:lo<=hi
        ·by_cases h8:1<=hi
         ·rw[aQ (by simp;split<;>omega),decide_eq_true h7,decide_eq_true h8];exact zXg (Ki n3 2) hl
         ·rw[bG (by simp;split<;>omega),decide_eq_false h8,decide_eq_true h7,iX];exact hg
        ·rw[bG (by simp;split<;>omega),decide_eq_false h7,iX];exact hg
       ·rw[bG (by simp;omega),decide_eq_false h6,iX];exact hg
      ·rw[bG (by simp;omega),decide_eq_false h5,iX];exact hg
end
end Go.Dec
namespace Go.Dec
def yRi (e:Nat):Prop:=40<=e ∧ e<=44
def zCs(t:Pt)(r:List UInt8)(b:Nat)(en:List Bool):Res Pt->Prop
 |.ok t' r' b' en'=>r' <:+ r/\b'=b/\en'=en/\t'.sz+3*r'.length<=t.sz+3*r.length
 |.er e _=>yRi e
theorem yIh{t:Pt}{lo hi:Int}{r0 r:List UInt8}{b:Nat}{en:List Bool}(h:r <:+ r0)(h2:r.length<r0.length):zCs t r0 b en (zIk t lo hi r b en):=by
 unfold zIk;cases [42].isPrefixOf r||[92,123].isPrefixOf r
 ·exact⟨h,rfl,rfl,by simp only[Pt.sz];omega⟩
 ·exact⟨by omega,by omega⟩
theorem yIi(r:List UInt8):(Jd r).2 <:+ r:=qFx _ _
theorem zXh(t:Pt)(r:List UInt8)(b:Nat)(en:List Bool):zCs t r b en (Ph t r b en):=by
 have hg:∀ k,zCs t r b en (.er 43 k):=λk=>⟨by omega,by omega⟩
 unfold Ph;cases h1:[42].isPrefixOf r
 case true =>
  have:=mD h1;simp only[xI,qBn]at this;exact yIh (qFx _ _) (by rw[yV];omega)
 simp only[cond_false];cases h2:[92,123].isPrefixOf r
 case false=>exact⟨qFm _,rfl,rfl,aS _⟩
 simp only[cond_true];have hp:=mD h2;simp only[xI,qBn]at hp;have n2:=yIi (r.drop 2);cases hlo:Jd (r.drop 2)with
 |mk lo r1 =>
  rw[hlo]at n2;simp only at n2;have l2:=n2.length_le;rw[yV]at l2;have hf:∀ {lo hi:Int}{x:List UInt8},x <:+ r1->zCs t r b en (zIk t lo hi (x.drop 2) b en):=by
   intro lo hi x hx;have l3:=hx.length_le;exact yIh ((qFx _ _).trans (hx.trans (n2.trans (qFx _ _)))) (by rw[yV];omega)
  cases lo with
  |none=>exact hg _
  |some lo =>
   simp only;cases [44].isPrefixOf r1
   ·simp only[cond_false];cases [92,125].isPrefixOf r1&&decide (lo<=255)&&decide (1<=lo)
    ·exact hg _
    ·exact hf (qFm _)
   ·simp only[cond_true];have n3:=(yIi (r1.drop 1)).trans (qFx 1 r1);cases hhi:Jd (r1.drop 1)with
    |mk hi r2 =>
     rw[hhi]at n3;cases hi with
     |none =>
      simp only;cases [92,125].isPrefixOf r2&&decide (lo<=255)
      ·exact hg _
      ·exact hf n3
     |some hi =>
      simp only;cases [92,125].isPrefixOf r2&&decide (lo<=255)&&decide (hi<=255)&&decide (lo<=hi)&&decide (1<=hi)
      ·exact hg _
      ·exact hf n3
def zIn(r:List UInt8):Res Pt->Prop
 |.ok t r' b' en'=>r' <:+ r/\t.sz+2+3*r'.length<=3*r.length/\b'<=9/\en'.length=10
 |.er e _=>yRi e
def zGc(r:List UInt8):Res (Option Pt)->Prop
 |.ok t r' b' en'=>r' <:+ r/\(match t with|none=>0|some t=>t.sz+1)+3*r'.length<=3*r.length/\b'<=9/\en'.length=10
 |.er e _=>yRi e
theorem yBk{row:List UInt8->Nat->List Bool->Res (Option Pt)}{first:Bool}{r:List UInt8}{b:Nat}{en:List Bool}(hb:b<=9)(he:en.length=10)(hrow:∀ r,b+1<=9->zGc r (row r (b+1) en)):zIn r (Ig row first r b en):=by
 have hg:∀ e k,40<=e->e<=44->zIn r (.er e k):=λe k h1 h2=>⟨h1,h2⟩
 unfold Ig;cases r with
 |nil=>exact hg _ _ (by omega) (by omega)
 |cons c r1 =>
  have hone:∀ p,zIn (c::r1) (.ok (.bytes p) r1 b en):=λp=>⟨qFy _ _,by simp only[Pt.sz,xI];omega,hb,he⟩
  simp only;cases c==46
  case true=>exact hone _
  simp only[cond_false];cases c==91
  case true =>
   simp only[cond_true];cases hk:zNj (c::r1)with
   |none=>exact hg _ _ (by omega) (by omega)
   |some x =>
    obtain⟨p,k⟩:=x;have:=yIe hk;exact⟨qFx _ _,by simp only[Pt.sz,yV];omega,hb,he⟩
  simp only[cond_false];cases c==92
  case false=>exact hone _
  simp only[cond_true];cases r1 with
  |nil=>exact hg _ _ (by omega) (by omega)
  |cons d r2 =>
   have yZm:∀ t:Pt,t.sz=1->zIn (c::d::r2) (.ok t r2 b en):=λt ht=>⟨(qFy _ _).trans (qFy _ _),by simp only[ht,xI];omega,hb,he⟩
   simp only;cases d==40
   case true =>
    simp only[cond_true];cases hb9:b==9
    case true=>exact hg _ _ (by omega) (by omega)
    have hb9:b≠9:=by simpa using hb9
    simp only[cond_false];have hr:=hrow r2 (by omega);cases ho:row r2 (b+1) en with
    |er e k=>rw[ho]at hr;exact hr
    |ok t r3 b3 en3 =>
     rw[ho]at hr;obtain⟨h1,h2,h3,h4⟩:=hr;cases t with
     |none=>exact hg _ _ (by omega) (by omega)
     |some t =>
      simp only;cases hp:[92,41].isPrefixOf r3
      ·exact hg _ _ (by omega) (by omega)
      ·have hl:=mD hp;simp only[xI,qBn]at hl;refine⟨(qFx _ _).trans (h1.trans ((qFy _ _).trans (qFy _ _))),?_,h3,?_⟩
       ·simp only[Pt.sz,yV,xI];simp only at h2;omega
       ·rw[List.length_set];exact h4
   simp only[cond_false];cases decide (49<=d.toNat)&&decide (d.toNat<=57)
   case true =>
    simp only[cond_true];cases en.getD (d.toNat-48) false
    ·exact hg _ _ (by omega) (by omega)
    ·exact yZm _ rfl
   simp only[cond_false];cases d==110
   case true=>exact yZm _ rfl
   simp only[cond_false];cases Gq.contains d
   case true=>exact yZm _ rfl
   simp only[cond_false];cases d==123&&first
   ·exact hg _ _ (by omega) (by omega)
   ·exact hg _ _ (by omega) (by omega)
theorem yBl{row:List UInt8->Nat->List Bool->Res (Option Pt)}{f0:Nat}{first:Bool}{r:List UInt8}{b:Nat}{en:List Bool}{t:Pt}{r':List UInt8}{b':Nat}{en':List Bool}(hrow:∀ r b en,en.length=10->b+1<=9->11<=f0+(b+1)->∀ t r' b' en',row r (b+1) en=.ok t r' b' en'->b+1<=b')(he:en.length=10)(hb:b<=9)(hf0:10<=f0+b)(h:Ig row first r b en=.ok t r' b' en'):b<=b':=by
 unfold Ig at h;cases r with
 |nil=>simp at h
 |cons c r1 =>
  simp only at h;cases h1:c==46<;>rw[h1]at h<;>simp only[cond_true,cond_false,Res.ok.injEq]at h
  case true=>omega
  cases h2:c==91<;>rw[h2]at h<;>simp only[cond_true,cond_false]at h
  case true =>
   cases h3:zNj (c::r1)with
   |none=>rw[h3]at h;simp at h
   |some x=>rw[h3]at h;simp only[Res.ok.injEq]at h;omega
  cases h3:c==92<;>rw[h3]at h<;>simp only[cond_true,cond_false,Res.ok.injEq]at h
  case false=>omega
  cases r1 with
  |nil=>simp at h
  |cons d r2 =>
   simp only at h;cases h4:d==40<;>rw[h4]at h<;>simp only[cond_true,cond_false]at h
   case true =>
    cases h5:b==9<;>rw[h5]at h<;>simp only[cond_true,cond_false]at h
    case true=>simp at h
    have hb9:b≠9:=by simpa using h5
    have hr:=hrow r2 b en he (by omega) (by omega);cases ho:row r2 (b+1) en with
    |er e k=>rw[ho]at h;simp at h
    |ok t r3 b3 en3 =>
     have:=hr _ _ _ _ ho;rw[ho]at h;cases t with
     |none=>simp at h
     |some t =>
      simp only at h;cases h6:[92,41].isPrefixOf r3<;>rw[h6]at h<;>simp only[cond_true,cond_false,Res.ok.injEq]at h
      ·simp at h
      ·omega
   cases h5:decide (49<=d.toNat)&&decide (d.toNat<=57)<;>rw[h5]at h<;>simp only[cond_true,cond_false]at h
   case true =>
    cases h6:en.getD (d.toNat-48) false<;>rw[h6]at h<;>simp only[cond_true,cond_false,Res.ok.injEq]at h
    ·simp at h
    ·omega
   cases h6:d==110<;>rw[h6]at h<;>simp only[cond_true,cond_false,Res.ok.injEq]at h
   case true=>omega
   cases h7:Gq.contains d<;>rw[h7]at h<;>simp only[cond_true,cond_false,Res.ok.injEq]at h
   case true=>omega
   cases h8:d==123&&first<;>rw[h8]at h<;>simp at h
def szL:List Pt->Nat | []=>0 | t :: ts=>t.sz+1+szL ts
theorem Rm:∀ (a b:List Pt),szL (a++b)=szL a+szL b
 |[],b=>by simp[szL]
 |t::a,b=>by simp[szL,Rm a b];omega
theorem yMs:∀ (ts:List Pt),(match Rl ts with|none=>0|some t=>t.sz+1)=szL ts
 |[]=>rfl
 |t::ts=>by
  have:=yMs ts;unfold Rl szL;cases h:Rl ts with
  |none=>rw[h]at this;simp only at this ⊢;omega
  |some u=>rw[h]at this;simp only[Pt.sz]at this ⊢;omega
def yUz(r:List UInt8)(acc:List Pt):Res (List Pt)->Prop
 |.ok ts r' b' en'=>r' <:+ r/\szL ts+3*r'.length<=szL acc+3*r.length/\b'<=9/\en'.length=10
 |.er e _=>yRi e
theorem zXi{row:List UInt8->Nat->List Bool->Res (Option Pt)}{f0:Nat}(hrow:∀ r b en,en.length=10->b+1<=9->11<=f0+(b+1)->zGc r (row r (b+1) en)/\∀ t r' b' en',row r (b+1) en=.ok t r' b' en'->b+1<=b'):∀ (f:Nat) (first:Bool) (r:List UInt8) (b:Nat) (en:List Bool) (acc:List Pt),r.length<f->b<=9->en.length=10->10<=f0+b->yUz r acc (yF row f first r b en acc)/\∀ t r' b' en',yF row f first r b en acc=.ok t r' b' en'->b<=b':=by
 intro f;induction f with
 |zero=>intro first r b en acc h;omega
 |succ f ih =>
  intro first r b en acc hf hb he hf0
  unfold yF;cases hc:Ao r
  case true =>
   refine⟨⟨qFm _,aS _,hb,he⟩,?_⟩;intro t r' b' en' h;simp only[cond_true,Res.ok.injEq]at h;omega
  simp only[cond_false];cases hd:[36].isPrefixOf r&&Ao (r.drop 1)
  case true =>
   simp only[aD]at hd;have:=mD hd.1;simp only[xI,qBn]at this;refine⟨⟨qFx _ _,?_,hb,he⟩,?_⟩
   ·rw[Rm];simp only[szL,Pt.sz,yV];omega
   ·intro t r' b' en' h;simp only[cond_true,Res.ok.injEq]at h;omega
  simp only[cond_false];have ha:=yBk (first:=first) (r:=r) hb he (λr hb=>(hrow r b en he hb (by omega)).1);have hab:∀ t r' b' en',Ig row first r b en=.ok t r' b' en'->b<=b':=λt r' b' en' h=>yBl (f0:=f0) (λr b en he hb hf=>(hrow r b en he hb hf).2) he hb hf0 h
  cases ho:Ig row first r b en with
  |er e k=>rw[ho]at ha;exact⟨ha,by intro t r' b' en' h;simp at h⟩
  |ok t r1 b1 en1 =>
   have hb1:=hab _ _ _ _ ho;rw[ho]at ha;obtain⟨a1,a2,a3,a4⟩:=ha;simp only;have ht:=zXh t r1 b1 en1;cases ho2:Ph t r1 b1 en1 with
   |er e k=>rw[ho2]at ht;exact⟨ht,by intro t r' b' en' h;simp at h⟩
   |ok t2 r2 b2 en2 =>
    rw[ho2]at ht;obtain⟨c1,rfl,rfl,c4⟩:=ht;simp only;have hlen:=c1.length_le;have hlen1:=a1.length_le;have ht2:=t.Cu;have:=ih false r2 b2 en2 (acc++[t2]) (by omega) a3 a4 (by omega);cases ho3:yF row f false r2 b2 en2 (acc++[t2])with
    |er e k=>rw[ho3]at this;exact⟨this.1,by intro t r' b' en' h;simp at h⟩
    |ok ts r4 b4 en4 =>
     rw[ho3]at this;obtain⟨⟨d1,d2,d3,d4⟩,d5⟩:=this;have d5:=d5 _ _ _ _ rfl;refine⟨⟨d1.trans (c1.trans a1),?_,d3,d4⟩,?_⟩
     ·rw[Rm]at d2;simp only[szL]at d2;omega
     ·intro t r' b' en' h;simp only[Res.ok.injEq]at h;omega
theorem Rn:∀ (f:Nat) (r:List UInt8) (b:Nat) (en:List Bool),11<=f+b->b<=9->en.length=10->zGc r (nP f r b en)/\∀ t r' b' en',nP f r b en=.ok t r' b' en'->b<=b':=by
 intro f;induction f with
 |zero=>intro r b en h hb;omega
 |succ f ih =>
  intro r b en hf hb he;unfold nP;simp only;have hr1:(bif [94].isPrefixOf r then r.drop 1 else r) <:+ r:=by
   cases [94].isPrefixOf r
   ·exact qFm _
   ·exact qFx _ _
  have hacc:szL (bif [94].isPrefixOf r then [Pt.bol]else [])+3*(bif [94].isPrefixOf r then r.drop 1 else r).length<=3*r.length:=by
   cases h:[94].isPrefixOf r
   ·simp[szL]
   ·have:=mD h;simp only[xI,qBn]at this;simp[szL,Pt.sz];omega
  have:=zXi (row:=nP f) (f0:=f) (λr b en he hb hf=>ih r (b+1) en hf hb he) ((bif [94].isPrefixOf r then r.drop 1 else r).length+1) true (bif [94].isPrefixOf r then r.drop 1 else r) b en (bif [94].isPrefixOf r then [Pt.bol]else []) (by omega) hb he (by omega);cases ho:yF (nP f) ((bif [94].isPrefixOf r then r.drop 1 else r).length+1) true (bif [94].isPrefixOf r then r.drop 1 else r) b en (bif [94].isPrefixOf r then [Pt.bol]else [])with
  |er e k=>rw[ho]at this;exact⟨this.1,by intro t r' b' en' h;simp at h⟩
  |ok ts r2 b2 en2 =>
   rw[ho]at this;obtain⟨⟨d1,d2,d3,d4⟩,d5⟩:=this;have d5:=d5 _ _ _ _ rfl;refine⟨⟨d1.trans hr1,?_,d3,d4⟩,?_⟩
   ·rw[yMs];omega
   ·intro t r' b' en' h;simp only[Res.ok.injEq]at h;omega
def ROK(s:List UInt8)(l:List Nd)(o:Res (Option Pt))(e:Option (Sum (Int × RdT) (Int × Int × RdT))):Prop:=match o with
 |.ok none r b en=>e=some (.inl (-1,s,psn s r,(b:Int),en,l,()))
 |.ok (some t) r b en=>e=some (.inl (t.top l.length,s,psn s r,(b:Int),en,l++t.enc l.length,()))
 |.er c k=>∃ x:RdT,e=some (.inr ((c:Int),((s.length-k:Nat):Int),x))
theorem yKs:((qAr 256).all λi=>decide (Go.Lib.indexByte Gq (UInt8.ofNat i)≥0)==Gq.contains (UInt8.ofNat i))=true:=by decide +kernel
theorem xBp(d:UInt8):UInt8.ofNat d.toNat=d:=by simp
theorem yRj{n:Nat}(d:UInt8):(ob (strings_IndexByte n ([46,91,92,42,94,36,47],(d.toNat:Int))) λy=>some (decide (y≥0)))=some (Gq.contains d):=by
 have:=zXb yKs d.toNat_lt;rw[beq_iff_eq,xBp]at this;unfold strings_IndexByte;simp only[aK,qCg];rw[show(d.toNat).toUInt8=d from xBp d];rw[<- this];rfl
theorem xHq(d:UInt8):wd (dL d.toNat d.toNat)=wd (zIl d):=Li λi hi=>by
 simp only[dL,zIl];rw[qFu];simp;omega
theorem yVa(d:UInt8):wd (ofP [d])=wd (zIl d):=Li λi hi=>by
 simp only[ofP,zIl];rw[qFu];simp;omega
section
variable {n:Nat}{s r:List UInt8}{b:Nat}{en:List Bool}{l:List Nd}{rw':RdT->Option (Sum (Int × RdT) (Int × Int × RdT))}{row:List UInt8->Nat->List Bool->Res (Option Pt)}
theorem yIj{o:Res Pt}{e:Option (Sum (Int × RdT) (Int × Int × RdT))}(h:POK s l o e):POK s l o (ob2 e (λy11 =>
 some (.inl (y11.1,y11.2.1,y11.2.2.1,y11.2.2.2.1,y11.2.2.2.2.1,y11.2.2.2.2.2.1,()))) (λy11 =>
 some (.inr (y11.1,y11.2.1,y11.2.2.1,y11.2.2.2.1,y11.2.2.2.2.1,y11.2.2.2.2.2.1,y11.2.2.2.2.2.2.1,())))):=by
 cases o with
 |er c k=>obtain⟨x,h⟩:=h;rw[h];exact⟨_,rfl⟩
 |ok t r b en=>simp only[POK]at h;rw[h];rfl
theorem zNl{p:Nat->Bool}(hl:l.length<900000):POK s l (.ok (.bytes p) r b en) (ob (dZ n (wd p,s,psn s r,(b:Int),en,l,())) λy=>some (.inl (y.1,y.2.1,y.2.2.1,y.2.2.2.1,y.2.2.2.2.1,y.2.2.2.2.2.1,()))):=by
 rw[yZj (by omega)];simp only[aK,POK,Pt.top,Pt.sz];congr 3;omega
theorem yZn{k:Nat}(h:r <:+ s)(hs:s.length<100000)(hl:l.length+3*r.length<800000)(he:en.length=10)(hb:b<=9)(hrow:b+1<=9->zGc r (row r (b+1) en)/\ROK s l (row r (b+1) en) (rw' (s,psn s r,((b+1:Nat):Int),en,l,()))):POK s l (bif b==9 then .er 41 k
  else match row r (b+1) en with
   |.er e k=>.er e k
   |.ok none _ _ _=>.er 41 k
   |.ok (some t) r3 b3 en3=>bif [92,41].isPrefixOf r3 then .ok (.group t (b+1)) (r3.drop 2) b3 (en3.set (b+1) true)else .er 41 k)
  (vY n rw' (((s.length-k:Nat):Int),s,psn s r,(b:Int),en,l,())):=by
 have hg:∀ {x:RdT},POK s l (.er 41 k) (some (.inr (41,((s.length-k:Nat):Int),x))):=λ{x}=>⟨x,rfl⟩
 unfold vY;simp only;cases h9:b==9
 case true =>
  have:b=9:=by simpa using h9
  rw[bG (by simp[this]),iX];exact hg
 have h9:b≠9:=by simpa using h9
 rw[aQ (by simp;omega),bD (by omega) (by omega)];obtain⟨hgood,hok⟩:=hrow (by omega);rw[show(b:Int)+1=((b+1:Nat):Int)from rfl];simp only[cond_false];cases ho:row r (b+1) en with
 |er e k2 =>
  rw[ho]at hok;obtain⟨x,hok⟩:=hok;rw[hok];exact⟨_,rfl⟩
 |ok t r3 b3 en3 =>
  rw[ho]at hok hgood;obtain⟨g1,g2,g3,g4⟩:=hgood;have hs3:r3 <:+ s:=g1.trans h;cases t with
  |none =>
   simp only[ROK]at hok;rw[hok];simp only[Xp];rw[bG (by rfl),iX];exact hg
  |some t =>
   simp only[ROK]at hok;rw[hok];simp only[Xp];have htop:(t.top l.length==(-1))=false:=by
    rw[qGh,ne_eq,beq_iff_eq];unfold Pt.top;have:=t.Cu;omega
   rw[aQ htop];cases hp:[92,41].isPrefixOf r3
   ·rw[yH hs3 hp];simp only[aK,qFt,dH,iX,oU,cond_false];exact hg
   ·rw[yG hs3 (by omega) hp];simp only[aK,qCc,bS,cond_true];rw[aI (bI (by omega) (by omega)),aI (by simp;omega)];simp only at g2;rw[zAy (by rw[xG,Pt.iW];omega)];simp only[aK,POK,Pt.enc,Pt.top,Pt.sz,xG,Pt.iW,wE,qCg];congr 3;omega
theorem xDt{first:Bool}(h:r <:+ s)(hne:r≠[])(hs:s.length<100000)(hn:s.length+500<=n)(hl:l.length+3*r.length<800000)(he:en.length=10)(hb:b<=9)(hrow:∀ r2,r2 <:+ r->r2.length<r.length->b+1<=9->zGc r2 (row r2 (b+1) en)/\ROK s l (row r2 (b+1) en) (rw' (s,psn s r2,((b+1:Nat):Int),en,l,()))):POK s l (Ig row first r b en) (xY n rw' (first,s,psn s r,(b:Int),en,l,())):=by
 have hlen:=Pj h;unfold xY Ig;cases r with
 |nil=>exact absurd rfl hne
 |cons c r1 =>
  simp only;simp only[xI]at hl hlen;have h1:r1 <:+ s:=(qFy _ _).trans h;have e46:[46].isPrefixOf (c::r1)=(46==c):=by simp[qGd]
  have e91:[91].isPrefixOf (c::r1)=(91==c):=by simp[qGd]
  have e92:[92].isPrefixOf (c::r1)=(92==c):=by simp[qGd]
  rw[zZt c 46,zZt c 91,zZt c 92];cases h46:(46==c)
  case true =>
   rw[yG h (by omega) (by rw[e46,h46])];simp only[aK,dH,cond_true];have:=zXc (n:=n) (by omega) (λ_=>false);rw[xQ]at this;rw[this];simp only[aK];exact zNl (r:=r1) (by omega)
  rw[yH h (by rw[e46,h46])];simp only[aK,bS,cond_false];rw[Cg h,e91];simp only[aK];cases h91:(91==c)
  case true =>
   simp only[dH,cond_true];rw[aI (yUx h),Xy,zAx h,zZu (by omega) (by simp only[xI];omega) (by simp only[xI];omega)];simp only[aK];cases hk:zNj (c::r1)with
   |none =>
    simp only[yZi];rw[bG (by rfl),iX];exact⟨_,rfl⟩
   |some x =>
    obtain⟨p,k⟩:=x;have hk2:=yIe hk;simp only[yZi];rw[aQ (by rfl),Gr h (by omega) hk2.2];exact zNl (r:=(c::r1).drop k) (by omega)
  simp only[bS,cond_false];rw[Cg h,e92];simp only[aK];have hp1:qEq .i64 (psn s (c::r1)+1)=psn s r1:=Gr h (by omega) (k:=1) (by simp);cases h92:(92==c)
  case false =>
   simp only[bS,cond_false];rw[hp1];have e0:qEq .i64 (psn s r1-1)=psn s (c::r1):=by
    rw[<- hp1,bD (x:=psn s (c::r1)+1) (by unfold psn;omega) (by unfold psn;omega),bD (by unfold psn;omega) (by unfold psn;omega)];omega
   rw[e0];have hps:psn s (c::r1)=((s.length-(r1.length+1):Nat):Int):=rfl;have xMa:psn s r1=((s.length-r1.length:Nat):Int):=rfl;rw[aI (by rw[hps,xMa];simp;omega),Xy,Xy];have e:(s.take (s.length-r1.length)).drop (s.length-(c::r1).length)=[c]:=by
    rw[qAl,zAx h];simp only[xI];rw[show s.length-r1.length-(s.length-(r1.length+1))=1 by omega];rfl
   rw[e,zNg _ (by simp;omega) (by simp),yVa];simp only[aK];exact zNl (r:=r1) (by omega)
  simp only[dH,cond_true];refine yIj ?_;unfold xX;simp only;rw[hp1,zZv h1];cases r1 with
  |nil =>
   simp only[List.isEmpty_nil,dH,iX,oU];exact⟨_,rfl⟩
  |cons d r2 =>
   have h2:r2 <:+ s:=(qFy _ _).trans h1;simp only[xI]at hlen hl;simp only[List.isEmpty_cons,bS];have hin:inB (psn s (d::r2)) s.length=true:=bI (by unfold psn;omega) (by unfold psn;simp only[xI];omega);have hgd:aM 0 s (psn s (d::r2))=d:=by
    have:=yMq (d:=0) h1 (j:=0) (c:=d) rfl;simpa using this
   have hp2:qEq .i64 (psn s (d::r2)+1)=psn s r2:=Gr h1 (by omega) (k:=1) (by simp);rw[aI hin,hgd,hp2];have e40:((d.toNat:Int)==40)=(d==40):=by rw[zZt];exact eqI 40
   have xMb:((d.toNat:Int)==110)=(d==110):=by rw[zZt];exact eqI 110
   have xMc:((d.toNat:Int)==123)=(d==123):=by rw[zZt];exact eqI 123
   rw[e40,xMb,xMc];cases h40:(d==40)
   case true =>
    simp only[dH,cond_true];have hG:=yZn (n:=n) (row:=row) (rw':=rw') (k:=(c::d::r2).length) (l:=l) (en:=en) (b:=b) h2 hs (by omega) he hb (λhb9=>hrow r2 ((qFy _ _).trans (qFy _ _)) (by simp only[xI];omega) hb9);have hpk:((s.length-(c::d::r2).length:Nat):Int)=psn s (c::d::r2):=rfl;rw[hpk]at hG;exact yIj hG
   simp only[bS,cond_false];have hrest:POK s l (bif d==110 then .ok (.bytes (zIl 10)) r2 b en
    else bif Gq.contains d then .ok (.bytes (zIl d)) r2 b en
    else bif d==123&&first then .er 43 (c::d::r2).length
    else .er 40 (c::d::r2).length) (
     br (d==110) (
      ob (xW n [10]) λy15 =>
      ob (dZ n (y15,s,psn s r2,(b:Int),en,l,())) λy16 =>
      some (.inl (y16.1,y16.2.1,y16.2.2.1,y16.2.2.2.1,y16.2.2.2.2.1,y16.2.2.2.2.2.1,()))) (
      ob (strings_IndexByte n ([46,91,92,42,94,36,47],(d.toNat:Int))) λy17 =>
      br (decide (y17≥0)) (
       ob (dW n ((d.toNat:Int),(d.toNat:Int))) λy18 =>
       ob (dZ n (y18,s,psn s r2,(b:Int),en,l,())) λy19 =>
       some (.inl (y19.1,y19.2.1,y19.2.2.1,y19.2.2.2.1,y19.2.2.2.2.1,y19.2.2.2.2.2.1,()))) (
       br (d==123) (
        br first (
         ob2 (aR n (43,psn s (c::d::r2),s,psn s r2,(b:Int),en,l,())) (λy20 =>
          none) (λy20 =>
          some (.inr (y20.1,y20.2.1,y20.2.2.1,y20.2.2.2.1,y20.2.2.2.2.1,y20.2.2.2.2.2.1,y20.2.2.2.2.2.2.1,())))) (
         ob2 (aR n (40,psn s (c::d::r2),s,psn s r2,(b:Int),en,l,())) (λy21 =>
          none) (λy21 =>
          some (.inr (y21.1,y21.2.1,y21.2.2.1,y21.2.2.2.1,y21.2.2.2.2.1,y21.2.2.2.2.2.1,y21.2.2.2.2.2.2.1,()))))) (
        ob2 (aR n (40,psn s (c::d::r2),s,psn s r2,(b:Int),en,l,())) (λy22 =>
         none) (λy22 =>
         some (.inr (y22.1,y22.2.1,y22.2.2.1,y22.2.2.2.1,y22.2.2.2.2.1,y22.2.2.2.2.2.1,y22.2.2.2.2.2.2.1,()))))))):=by
    cases xHr:(d==110)
    case true =>
     simp only[dH,cond_true];rw[zNg _ (by simp;omega) (by simp),yVa];simp only[aK];exact zNl (by omega)
    simp only[bS,cond_false];have hsp:=yRj (n:=n) d;cases hix:strings_IndexByte n ([46,91,92,42,94,36,47],(d.toNat:Int))with
    |none=>rw[hix]at hsp;exact absurd hsp (by simp[ob])
    |some y =>
     rw[hix]at hsp;simp only[aK,aA]at hsp ⊢;rw[hsp];cases Gq.contains d
     case true =>
      simp only[dH,cond_true];rw[Pg (by omega) d.toNat_lt d.toNat_lt,xHq];simp only[aK];exact zNl (by omega)
     simp only[bS,cond_false,iX,oU];cases(d==123)<;>cases first<;>exact⟨_,rfl⟩
   by_cases h49:49<=d.toNat
   ·rw[bG (by simp;omega),decide_eq_true h49];by_cases h57:d.toNat<=57
    ·rw[bG (by simp;omega),decide_eq_true h57];simp only[Bool.and_self,cond_true];have hv:qEq .i64 (qEq .u8 ((d.toNat:Int)-48))=((d.toNat-48:Nat):Int):=by
      rw[IntWalk.u8_in _ (by omega),bD (by omega) (by omega)];omega
     rw[hv,aI (bI (by omega) (by omega)),aI (by simp;omega),qCg,show Ty.dflt .bool=false from rfl];cases en.getD (d.toNat-48) false
     ·simp only[qFt,dH,iX,oU,cond_false];exact⟨_,rfl⟩
     ·simp only[qCc,bS,cond_true];rw[zAy (by omega)];simp only[aK,POK,Pt.enc,Pt.top,Pt.sz];congr 3;omega
    ·rw[aQ (by simp;omega),decide_eq_false h57,qGa];simp only[cond_false];exact hrest
   ·rw[aQ (by simp;omega),decide_eq_false h49,qFv];simp only[cond_false];exact hrest
end
end Go.Dec
namespace Go.Dec
def szA:List Pt->Nat | []=>0 | t :: ts=>t.sz+szA ts
def qD:Nat->List Pt->List Nd | _,[]=>[] | o,t :: ts=>t.enc o++qD (o+t.sz) ts
def qE:Nat->List Pt->List Int | _,[]=>[] | o,t :: ts=>t.top o :: qE (o+t.sz) ts
theorem Xz:∀ (a b:List Pt),szA (a++b)=szA a+szA b
 |[],b=>by simp[szA]
 |t::a,b=>by simp[szA,Xz a b];omega
theorem yIk:∀ ts:List Pt,szA ts+ts.length=szL ts
 |[]=>rfl
 |t::ts=>by have:=yIk ts;simp[szA,szL];omega
theorem zAz:∀ (ts:List Pt) (o:Nat),(qD o ts).length=szA ts
 |[],_=>rfl
 |t::ts,o=>by simp[qD,szA,Pt.iW,zAz ts]
theorem zBa:∀ (ts:List Pt) (o:Nat) (t:Pt),qD o (ts++[t])=qD o ts++t.enc (o+szA ts)
 |[],o,t=>by simp[qD,szA]
 |u::ts,o,t=>by simp[qD,szA,zBa ts,zD]
theorem zNm:∀ (ts:List Pt) (o:Nat) (t:Pt),qE o (ts++[t])=qE o ts++[t.top (o+szA ts)]
 |[],o,t=>by simp[qE,szA]
 |u::ts,o,t=>by simp[qE,szA,zNm ts,zD]
theorem Ur:∀ (ts:List Pt) (o:Nat),(qE o ts).length=ts.length
 |[],_=>rfl
 |t::ts,o=>by simp[qE,Ur ts]
theorem yIl(pre:List Pt)(t:Pt)(post:List Pt)(o:Nat)(d:Int):(qE o (pre++t::post)).getD pre.length d=t.top (o+szA pre):=by
 induction pre generalizing o with
 |nil=>simp[qE,szA]
 |cons u pre ih=>simp only[qCt,qE,szA,xI,qGl];rw[ih];congr 1;omega
theorem zTn:∀ (pre:List Pt) (t:Pt),Rl (pre++[t])=some (pre.foldr Pt.cat t)
 |[],t=>rfl
 |u::pre,t=>by simp only[qCt,Rl,zTn pre t,List.foldr_cons]
section
variable {n:Nat}{s:List UInt8}{l:List Nd}{rw':RdT->Option (Sum (Int × RdT) (Int × Int × RdT))}
theorem yZo{at':Int}{b:Int}{en:List Bool}{ts:List Pt}(hl:l.length+szL ts<900000):∀ (k m:Nat) (pre suf:List Pt) (u:Pt),pre.length=k->ts=pre++suf->szA pre+u.sz+pre.length<=szL ts->k<m ->
 fix (uY n) m (u.top (l.length+szA pre),(k:Int)-1,s,at',b,en,l++qD l.length pre++u.enc (l.length+szA pre),qE l.length ts,()) =
  some (.inl ((pre.foldr Pt.cat u).top l.length,s,at',b,en,l++(pre.foldr Pt.cat u).enc l.length,())):=by
 intro k;induction k with
 |zero =>
  intro m pre suf u hk hts hsz hm;have:pre=[]:=List.eq_nil_of_length_eq_zero hk;subst this;rw[lZ hm,uY];simp only;rw[aQ (by simp)];simp[qD,szA]
 |succ k ih =>
  intro m pre suf u hk hts hsz hm;obtain⟨pre',t,rfl⟩:∃ pre' t,pre=pre'++[t]:=by
   rcases qGi pre with rfl|⟨p,t,rfl⟩
   ·simp at hk
   ·exact⟨p,t,by simp⟩
  have hk':pre'.length=k:=by simpa using hk
  have yZp:ts=pre'++t::suf:=by rw[hts];simp
  have hat:=yIl pre' t suf l.length 0;rw[<- yZp,hk']at hat;have hlen:(qE l.length ts).length=ts.length:=Ur _ _;have htl:k<ts.length:=by rw[yZp];simp;omega
  rw[lZ (by omega),uY];simp only;rw[show((k+1:Nat):Int)-1=(k:Int)by omega];rw[bG (by simp),hlen,aI (by rw[Jc htl];simp),qCg,yY,aI (by simp;omega),show Ty.dflt (.int .i64)=(0:Int)from rfl,hat];rw[Xz]at hsz;simp only[szA,xG,xI,qBn]at hsz;rw[zAy (by simp only[xG,zAz,Xz,Pt.iW,szA];omega)];simp only[aK];rw[bD (by omega) (by omega)];have hc:=ih (m-1) pre' (t::suf) (.cat t u) hk' yZp (by simp only[Pt.sz];omega) (by omega);have e1:(((l++qD l.length (pre'++[t])++u.enc (l.length+szA (pre'++[t]))).length:Nat):Int)=(Pt.cat t u).top (l.length+szA pre'):=by
   simp only[xG,zAz,Xz,Pt.iW,szA,Pt.top,Pt.sz];omega
  have e2:l++qD l.length (pre'++[t])++u.enc (l.length+szA (pre'++[t]))++[(4,[0,0,0,0],t.top (l.length+szA pre'),u.top (l.length+szA (pre'++[t])),0,0,0,())]=l++qD l.length pre'++(Pt.cat t u).enc (l.length+szA pre'):=by
   simp only[zBa,Xz,szA,Pt.enc,wE,qAa,zD]
  rw[e1,e2,hc,List.foldr_append];rfl
theorem yIm{r:List UInt8}{b:Nat}{en:List Bool}{ts:List Pt}(hn:szL ts+10<=n)(hl:l.length+szL ts<900000):ROK s l (.ok (Rl ts) r b en) (uZ n (s,psn s r,(b:Int),en,l++qD l.length ts,qE l.length ts,())):=by
 unfold uZ;simp only;rw[Ur];have hsl:=yIk ts;rcases qGi ts with rfl|⟨pre,t,h⟩
 ·rw[bG (by rfl)];simp[Rl,ROK,qD]
 ·have hts:ts=pre++[t]:=by rw[h];simp
  have hlen:ts.length=pre.length+1:=by rw[hts];simp
  have hat:=yIl pre t [] l.length 0;rw[show pre++t::[]=ts by rw[hts]]at hat;rw[aQ (by simp;exact λh=>by rw[h]at hlen;simp at hlen),hlen];rw[bD (x:=((pre.length+1:Nat):Int)-1) (by omega) (by omega),bD (by omega) (by omega)];rw[show((pre.length+1:Nat):Int)-1=(pre.length:Int)by omega,show((pre.length+1:Nat):Int)-2=(pre.length:Int)-1 by omega];rw[aI (by rw[Jc (by omega)];simp),qCg,yY,aI (by simp),show Ty.dflt (.int .i64)=(0:Int)from rfl,hat];have hc:=yZo (n:=n) (s:=s) (l:=l) (at':=psn s r) (b:=(b:Int)) (en:=en) (ts:=ts) hl pre.length n pre [t] t rfl hts (by rw[hts,Xz]at hsl;simp only[szA]at hsl;rw[hts];simp only[xG,xI,qBn]at hsl;omega) (by omega);have e:l++qD l.length ts=l++qD l.length pre++t.enc (l.length+szA pre):=by rw[hts,zBa,wE]
  rw[e,hc];have xMd:Rl ts=some (pre.foldr Pt.cat t):=by rw[hts];exact zTn pre t
  rw[xMd];rfl
theorem yBm{f0 R:Nat}(hs:s.length<100000)(hn:3*s.length+500<=n)(hrow:∀ r2 b2 en2 l2,r2 <:+ s->r2.length<R->b2+1<=9->11<=f0+(b2+1)->en2.length=10->l2.length+3*r2.length<800000->ROK s l2 (nP f0 r2 (b2+1) en2) (rw' (s,psn s r2,((b2+1:Nat):Int),en2,l2,()))):∀ (f m:Nat) (first:Bool) (r:List UInt8) (b:Nat) (en:List Bool) (acc:List Pt),r <:+ s->r.length<=R->r.length<f->f<=m->b<=9->en.length=10->10<=f0+b->l.length+szL acc+3*r.length<800000->szL acc+3*r.length<=3*s.length ->
  ROK s l (match yF (nP f0) f first r b en acc with
   |.er e k=>.er e k
   |.ok ts r2 b2 en2=>.ok (Rl ts) r2 b2 en2) (fix (pO n rw') m (first,s,psn s r,(b:Int),en,l++qD l.length acc,qE l.length acc,())):=by
 intro f;induction f with
 |zero=>intro m first r b en acc _ _ h;omega
 |succ f ih =>
  intro m first r b en acc h hR hf hm hb he hf0 hl hsz
  have hle:=Pj h;have hal:=yIk acc;rw[lZ (by omega),pO];simp only;rw[yUy h];unfold yF;simp only[aK];cases hc:Ao r
  case true =>
   simp only[qCc,bS,cond_true,zNe];exact yIm (by omega) (by omega)
  simp only[qFt,dH,cond_false];rw[Cg h];simp only[aK];have hne:r≠[]:=by intro e;subst e;simp[Ao]at hc
  have hgo:ROK s l (match (match Ig (nP f0) first r b en with
   |.er e k=>(.er e k:Res (List Pt))
   |.ok t r1 b1 en1=>match Ph t r1 b1 en1 with
    |.er e k=>.er e k
    |.ok t2 r2 b2 en2=>yF (nP f0) f false r2 b2 en2 (acc++[t2]))with
    |.er e k=>.er e k
    |.ok ts r2 b2 en2=>.ok (Rl ts) r2 b2 en2) (jS n rw' (fix (pO n rw') (m-1)) (first,false,s,psn s r,(b:Int),en,l++qD l.length acc,qE l.length acc,())):=by
   unfold jS;simp only[bS];have hll:(l++qD l.length acc).length=l.length+szA acc:=by rw[xG,zAz]
   have ha:=xDt (n:=n) (rw':=rw') (row:=nP f0) (l:=l++qD l.length acc) (first:=first) h hne hs (by omega) (by rw[hll];omega) he hb
    (λr2 hr2 hlt hb1=>⟨(Rn f0 r2 (b+1) en (by omega) hb1 he).1,hrow r2 b en _ (hr2.trans h) (by omega) hb1 (by omega) he (by rw[hll];omega)⟩)
   have hg:=yBk (row:=nP f0) (first:=first) (r:=r) hb he (λr hb1=>(Rn f0 r (b+1) en (by omega) hb1 he).1);have hbb:=(zXi (row:=nP f0) (f0:=f0) (λr b en he hb hf=>Rn f0 r (b+1) en hf hb he) (f+1) first r b en acc hf hb he hf0);cases ho:Ig (nP f0) first r b en with
   |er e k =>
    rw[ho]at ha;obtain⟨x,ha⟩:=ha;rw[ha];exact⟨_,rfl⟩
   |ok t r1 b1 en1 =>
    rw[ho]at ha hg;obtain⟨g1,g2,g3,g4⟩:=hg;simp only[POK]at ha;rw[ha];simp only[Xp];have h1:r1 <:+ s:=g1.trans h;have htm:=yZl (n:=n) (l:=l++qD l.length acc) (t:=t) (b:=b1) (en:=en1) h1 (by omega) (by omega) (by rw[hll];omega);have htg:=zXh t r1 b1 en1;have htp:=t.Cu;rw[hll]at htm ⊢;cases ho2:Ph t r1 b1 en1 with
    |er e k =>
     rw[ho2]at htm;obtain⟨x,htm⟩:=htm;rw[htm];exact⟨_,rfl⟩
    |ok t2 r2 b2 en2 =>
     rw[ho2]at htm htg;obtain⟨c1,rfl,rfl,c4⟩:=htg;simp only[POK]at htm;rw[htm];simp only[Xp];have hc1:=c1.length_le;have hg1:=g1.length_le;rw[aI (by rw[Ur];simp[room];omega),hll];have e1:l++qD l.length acc++t2.enc (l.length+szA acc)=l++qD l.length (acc++[t2]):=by rw[zBa,wE]
     have e2:qE l.length acc++[t2.top (l.length+szA acc)]=qE l.length (acc++[t2]):=(zNm _ _ _).symm;rw[e1,e2];have xMv:b<=b2:=by
      cases hi:Ig (nP f0) first r b en with
      |er e k=>rw[hi]at ho;exact absurd ho (by simp)
      |ok t' r' b' en' =>
       rw[hi]at ho;simp only[Res.ok.injEq]at ho;have:=yBl (row:=nP f0) (f0:=f0) (λr b en he hb hf=>(Rn f0 r (b+1) en hf hb he).2) he hb hf0 hi;omega
     exact ih (m-1) false r2 b2 en2 (acc++[t2]) (c1.trans h1) (by omega) (by omega) (by omega) g3 g4 (by omega) (by rw[Rm];simp only[szL];omega) (by rw[Rm];simp only[szL];omega)
  have hend:∀ r1,r=36::r1->ROK s l (.ok (Rl (acc++[.eol])) r1 b en) (jS n rw' (fix (pO n rw') (m-1)) (first,true,s,psn s r,(b:Int),en,l++qD l.length acc,qE l.length acc,())):=by
   intro r1 hr;unfold jS;simp only[dH];have hrl:r.length=r1.length+1:=by rw[hr];rfl
   have hp:qEq .i64 (psn s r+1)=psn s r1:=by
    have:=Gr h (by omega) (k:=1) (by omega);rw[hr]at this ⊢;exact this
   have hll:(l++qD l.length acc).length=l.length+szA acc:=by rw[xG,zAz]
   rw[hp,zAy (by rw[hll];omega)];simp only[aK];rw[aI (by rw[Ur];simp[room];omega),zNe,hll];have e1:l++qD l.length acc++[(3,[0,0,0,0],0,0,0,0,0,())]=l++qD l.length (acc++[.eol]):=by rw[zBa,wE];rfl
   have e2:qE l.length acc++[((l.length+szA acc:Nat):Int)]=qE l.length (acc++[.eol]):=by
    rw[zNm];congr 2;simp only[Pt.top,Pt.sz];omega
   rw[e1,e2];exact yIm (by rw[Rm];simp only[szL,Pt.sz];omega) (by rw[Rm];simp only[szL,Pt.sz];omega)
  cases hd:[36].isPrefixOf r
  ·simp only[bS,qFv,cond_false,zNe];exact hgo
  ·obtain⟨r1,hr⟩:=xLz hd;simp only[dH,qFw,zNe];have hrl:r.length=r1.length+1:=by rw[hr];rfl
   have hp:qEq .i64 (psn s r+1)=psn s r1:=by
    have:=Gr h (by omega) (k:=1) (by omega);rw[hr]at this ⊢;exact this
   have h1:r1 <:+ s:=by rw[hr]at h;exact(qFy _ _).trans h
   rw[hp,zZv h1,show r.drop 1=r1 by rw[hr];rfl];unfold Ao;cases hem:r1.isEmpty
   ·simp only[bS,qGp];rw[Cg h,show [36,92,41].isPrefixOf r=[92,41].isPrefixOf r1 by rw[hr];simp[qGd]];simp only[aK];cases [92,41].isPrefixOf r1
    ·exact hgo
    ·exact hend r1 hr
   ·simp only[dH,Bool.true_or,cond_true];exact hend r1 hr
theorem xHs:∀ (f n:Nat) (r:List UInt8) (b:Nat) (en:List Bool) (l:List Nd),s.length<100000->3*s.length+500+f<=n->r <:+ s->11<=f+b->b<=9->en.length=10->l.length+3*r.length<800000->ROK s l (nP f r b en) (lT n (s,psn s r,(b:Int),en,l,())):=by
 intro f;induction f with
 |zero=>intro n r b en l _ _ _ h hb;omega
 |succ f ih =>
  intro n r b en l hs hn h hf hb he hl;obtain⟨n,rfl⟩:∃ k,n=k+1:=⟨n-1,by omega⟩;have hle:=Pj h;have xMe:lT (n+1) (s,psn s r,(b:Int),en,l,())=wQ n (lT n) (s,psn s r,(b:Int),en,l,()):=rfl;rw[xMe];unfold wQ nP;simp only;cases h94:[94].isPrefixOf r
  ·rw[yH h h94];simp only[aK,bS,cond_false,zNe,vB];have:=yBm (n:=n) (s:=s) (l:=l) (rw':=lT n) (f0:=f) (R:=r.length) hs (by omega)
    (λr2 b2 en2 l2 h2 _ hb2 hf2 he2 hl2=>ih n r2 (b2+1) en2 l2 hs (by omega) h2 hf2 hb2 he2 hl2) (r.length+1) n true r b en [] h (aS _) (by omega) (by omega) hb he (by omega) (by simp only[szL];omega) (by simp only[szL];omega)
   simp only[qD,qE,vE]at this;exact this
  ·rw[yG h (by omega) h94];have hp:=mD h94;simp only[xI,qBn]at hp;simp only[aK,dH,cond_true];rw[zAy (by omega)];simp only[aK];rw[aI (by simp[room]),zNe,vB];simp only;have hd:=yV (i:=1) (l:=r);have:=yBm (n:=n) (s:=s) (l:=l) (rw':=lT n) (f0:=f) (R:=r.length) hs (by omega)
    (λr2 b2 en2 l2 h2 _ hb2 hf2 he2 hl2=>ih n r2 (b2+1) en2 l2 hs (by omega) h2 hf2 hb2 he2 hl2) ((r.drop 1).length+1) n true (r.drop 1) b en [.bol] (Ki h 1) (by omega) (by omega) (by omega) hb he (by omega) (by simp only[szL,Pt.sz];omega) (by simp only[szL,Pt.sz];omega)
   have e2:qE l.length [.bol]=[((l.length:Nat):Int)]:=by simp only[qE,Pt.top,Pt.sz];congr 1;omega
   simp only[qD,Pt.enc,vE]at this;rw[e2]at this;exact this
end
theorem yVb{row:List UInt8->Nat->List Bool->Res (Option Pt)}:∀ (f:Nat) (first:Bool) (r:List UInt8) (b:Nat) (en:List Bool) (acc ts:List Pt) (r':List UInt8) (b':Nat) (en':List Bool),yF row f first r b en acc=.ok ts r' b' en'->(ts=acc/\r'=r)\/acc.length<ts.length:=by
 intro f;induction f with
 |zero=>intro first r b en acc ts r' b' en' h;simp[yF]at h
 |succ f ih =>
  intro first r b en acc ts r' b' en' h
  unfold yF at h;cases hc:Ao r<;>rw[hc]at h<;>simp only[cond_true,cond_false,Res.ok.injEq]at h
  case true=>exact Or.inl ⟨h.1.symm,h.2.1.symm⟩
  cases hd:[36].isPrefixOf r&&Ao (r.drop 1)<;>rw[hd]at h<;>simp only[cond_true,cond_false,Res.ok.injEq]at h
  case true=>exact Or.inr (by rw[<- h.1];simp)
  cases ho:Ig row first r b en with
  |er e k=>rw[ho]at h;simp at h
  |ok t r1 b1 en1 =>
   rw[ho]at h;simp only at h;cases ho2:Ph t r1 b1 en1 with
   |er e k=>rw[ho2]at h;simp at h
   |ok t2 r2 b2 en2 =>
    rw[ho2]at h;simp only at h;rcases ih _ _ _ _ _ _ _ _ _ h with ⟨h1,_⟩|h1
    ·exact Or.inr (by rw[h1];simp)
    ·exact Or.inr (by simp at h1;omega)
theorem yCv{f:Nat}{r r':List UInt8}{b b':Nat}{en en':List Bool}(h:nP f r b en=.ok none r' b' en'):r'=r:=by
 cases f with
 |zero=>simp[nP]at h
 |succ f =>
  unfold nP at h;simp only at h;cases ho:yF (nP f) ((bif [94].isPrefixOf r then r.drop 1 else r).length+1) true (bif [94].isPrefixOf r then r.drop 1 else r) b en (bif [94].isPrefixOf r then [Pt.bol]else [])with
  |er e k=>rw[ho]at h;simp at h
  |ok ts r2 b2 en2 =>
   rw[ho]at h;simp only[Res.ok.injEq]at h;have hts:ts=[]:=by
    rcases qGi ts with hh|⟨p,t,hh⟩
    ·exact hh
    ·rw[hh,List.concat_eq_append,zTn]at h;simp at h
   rcases yVb _ _ _ _ _ _ _ _ _ _ ho with ⟨h1,h2⟩|h1
   ·rw[hts]at h1;cases h94:[94].isPrefixOf r
    ·rw[h94]at h2;rw[<- h.2.1,h2];rfl
    ·rw[h94]at h1;simp at h1
   ·rw[hts]at h1;simp at h1
def yIn:Sum Pt (Nat×Nat)->List Nd×Int×Int | .inl t=>(t.enc 0,0,0) | .inr (e,k)=>([],(k:Int),(e:Int))
theorem yIo{n:Nat}{s:List UInt8}(hs:s.length<100000)(hn:3*s.length+600<=n):Lx n s=some (yIn (zAw s)):=by
 unfold Lx;simp only;cases s with
 |nil=>rfl
 |cons c s0 =>
  generalize hsv:c::s0=s at *;have hne:s≠[]:=by rw[<- hsv];simp
  rw[aQ (by simpa using hne)];have hps:zAw s=match nP 11 s 0 zAv with
   |.er e k=>.inr (e,s.length-k)
   |.ok t r _ _ =>
    match r with
    |[]=>match t with
     |none=>.inr (41,s.length)
     |some t=>bif decide (t.sz>120)then .inr (2,0)else .inl t
    |_=>.inr (41,s.length-r.length):=by rw[<- hsv];rfl
  rw[hps];have hrow:=xHs (s:=s) 11 n s 0 zAv [] hs (by omega) (qFm _) (by omega) (by omega) rfl (by simp;omega);have hgood:=(Rn 11 s 0 zAv (by omega) (by omega) rfl).1;have hp0:psn s s=0:=by unfold psn;omega
  rw[hp0]at hrow;unfold kE Jo;simp only;have xJy:([false,false,false,false,false,false,false,false,false,false]:List Bool)=zAv:=rfl;rw[xJy];cases ho:nP 11 s 0 zAv with
  |er e k =>
   rw[ho]at hrow hgood;obtain⟨x,hrow⟩:=hrow;obtain⟨e1,e2⟩:=hgood;rw[show(((0:Nat):Int))=0 from rfl]at hrow;rw[hrow];simp only[oU,aK];rw[bG (by simp;omega)];rfl
  |ok t r b2 en2 =>
   rw[ho]at hrow hgood;obtain⟨g1,g2,g3,g4⟩:=hgood;have hgl:=g1.length_le;have hlt:∀ c r',r=c::r'->psn s r<(s.length:Int):=by
    intro c r' hr;rw[hr]at hgl ⊢;unfold psn;simp only[xI]at hgl ⊢;omega
   have hrow':∃ top row,lT n (s,0,0,zAv,[],())=some (.inl (top,s,psn s r,(b2:Int),en2,row,()))/\(match t with|none=>True|some t=>row=t.enc 0):=by
    cases t with
    |none=>exact⟨_,_,hrow,trivial⟩
    |some t=>exact⟨_,_,hrow,by simp⟩
   obtain⟨top,row,hr1,hr2⟩:=hrow';rw[hr1];simp only[Xp];cases hr:r with
   |cons c2 r2 =>
    have:=hlt c2 r2 hr;rw[hr]at this;rw[bG (decide_eq_true this),iX];simp only[oU,aK];rw[bG (by rfl)];rfl
   |nil =>
    have he:psn s []=(s.length:Int):=by unfold psn;simp
    rw[aQ (by rw[he];simp)];cases t with
    |none =>
     exfalso;have:=yCv ho;rw[hr]at this;exact absurd this hne.symm
    |some t =>
     simp only at hr2 g2 ⊢;rw[hr2,Pt.iW];by_cases yIp:t.sz>120
     ·rw[bG (by simp;omega),decide_eq_true yIp,iX];simp only[oU,aK,cond_true];rw[bG (by rfl)];rfl
     ·rw[aQ (by simp;omega),decide_eq_false yIp];simp only[Xp,aK,cond_false];rw[aQ (by rfl)];rfl
end Go.Dec
