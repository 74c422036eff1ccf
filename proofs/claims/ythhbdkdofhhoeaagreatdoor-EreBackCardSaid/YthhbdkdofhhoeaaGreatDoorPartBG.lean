/- Part of a proof over this seat: a library of my own, and what it says of this seat. No statement is proved here. -/
import Derived.Test.YthhbdkdofhhoeaaGreatDoorPartAW
import Derived.Test.YthhbdkdofhhoeaaGreatDoorPartAN
namespace Go.Dec
theorem aC {ρ:Type}{b:Bool}(h:b=true) (x:Option ρ):chk b x=x:=by subst h;rfl
theorem aN {ρ:Type}{b:Bool}(h:b=true) (x y:Option ρ):br b x y=x:=by subst h;rfl
theorem aF {ρ:Type}{b:Bool}(h:b=false) (x y:Option ρ):br b x y=y:=by subst h;rfl
@[simp] theorem zSx {α γ ρ:Type}(x:α) (k:α->Option ρ) (k':γ->Option ρ):ob2 (some (.inl x)) k k'=k x:=rfl
@[simp] theorem xP {α γ ρ:Type}(x:γ) (k:α->Option ρ) (k':γ->Option ρ):ob2 (some (.inr x)) k k'=k' x:=rfl
theorem zSy {ρ α:Type}(f:α->Option ρ) (x:α):jn f x=f x:=rfl
theorem Tn {ρ α : Type} {B : (α -> Option ρ) -> α -> Option ρ} (st : Nat -> α) {N : Nat} {r : Option ρ}
    (h1 : ∀ i, i < N -> ∀ g, B g (st i) = g (st (i + 1))) (h2 : ∀ g, B g (st N) = r) : ∀ k i n, i + k = N -> k < n -> fix B n (st i) = r := by
  intro k;induction k with
  | zero => intro i n hi hn; rw [cZ hn]; have : i = N := by omega
            subst this; exact h2 _
  | succ k ih => intro i n hi hn; rw [cZ (by omega), h1 i (by omega)]; exact ih (i + 1) (n - 1) (by omega) (by omega)
theorem zPg {ρ α : Type} {B : (α -> Option ρ) -> α -> Option ρ} (st : Nat -> α) {lo N : Nat} {r : Option ρ}
    (h1 : ∀ i, lo <= i -> i < N -> ∀ g, B g (st i) = g (st (i + 1))) (h2 : ∀ g, B g (st N) = r) : ∀ k i n, i + k = N -> lo <= i -> k < n -> fix B n (st i) = r := by
  intro k;induction k with
  | zero => intro i n hi hl hn; rw [cZ hn]; have : i = N := by omega
            subst this; exact h2 _
  | succ k ih => intro i n hi hl hn; rw [cZ (by omega), h1 i hl (by omega)]; exact ih (i + 1) (n - 1) (by omega) (by omega) (by omega)
theorem nK {f:Nat->Bool}{n:Nat}(h:(List.range n).all f=true) {i:Nat}(hi:i<n):f i=true:=by
 rw [List.all_eq_true] at h;exact h i (by simpa using hi)
def bn:(Nat->Bool)->Nat->Nat | _,0=>0 | f,k+1=>(f 0).toNat+2*bn (fun i=>f (i+1)) k
theorem zSz:∀ (k:Nat) (f:Nat->Bool) (j:Nat),(bn f k).testBit j=(decide (j<k)&&f j)
 | 0,f,j=>by simp [bn]
 | k+1,f,j=>by
  unfold bn;cases j with
  | zero=>simp;cases f 0<;>simp<;>omega
  | succ j =>
   rw [Nat.testBit_succ];have h:((f 0).toNat+2*bn (fun i=>f (i+1)) k) / 2=bn (fun i=>f (i+1)) k:=by cases f 0<;>simp<;>omega
   rw [h,zSz k];simp
theorem yBh:∀ (k:Nat) (f:Nat->Bool),bn f k<2 ^ k
 | 0,f=>by simp [bn]
 | k+1,f=>by
  have:=yBh k (fun i=>f (i+1));unfold bn;cases f 0<;>simp [Nat.pow_succ]<;>omega
theorem zLc:∀ (k:Nat) {f g:Nat->Bool},(∀ j,j<k->f j=g j)->bn f k=bn g k
 | 0,f,g,h=>rfl
 | k+1,f,g,h=>by
  unfold bn;rw [h 0 (by omega),zLc k (fun j hj=>h (j+1) (by omega))]
theorem yHk {x k:Nat}{f:Nat->Bool}(hx:x<2 ^ k) (h:∀ j,j<k->x.testBit j=f j):x=bn f k:=by
 apply Nat.eq_of_testBit_eq;intro j;rw [zSz];by_cases hj:j<k
 ·simp [hj,h j hj]
 ·simp only [hj,decide_false,Bool.false_and];exact Nat.testBit_lt_two_pow (Nat.lt_of_lt_of_le hx (Nat.pow_le_pow_right (by omega) (by omega)))
def Gg (p:Nat->Bool) (k:Nat):Nat:=bn (fun j=>p (64*k+j)) 64
def word (p:Nat->Bool) (k:Nat):Int:=(Gg p k:Nat)
def wd (p:Nat->Bool):List Int:=[word p 0,word p 1,word p 2,word p 3]
def bx (p:Nat->Bool):List Bool:=(List.range 256).map p
theorem qU (p:Nat->Bool) (k:Nat):Gg p k<2 ^ 64:=yBh _ _
theorem Bz (p:Nat->Bool) (k j:Nat):(Gg p k).testBit j=(decide (j<64)&&p (64*k+j)):=zSz _ _ _
theorem Zd {x k:Nat}{p:Nat->Bool}(hx:x<2 ^ 64) (h:∀ j,j<64->x.testBit j=p (64*k+j)):x=Gg p k:=yHk hx h
theorem Ae {p q:Nat->Bool}{k:Nat}(h:∀ i,64*k<=i->i<64*k+64->p i=q i):word p k=word q k:=by
 unfold word Gg;rw [zLc 64 (fun j hj=>h (64*k+j) (by omega) (by omega))]
theorem uY {p q:Nat->Bool}(h:∀ i,i<256->p i=q i):wd p=wd q:=by
 unfold wd;rw [Ae (fun i _ _=>h i (by omega)),Ae (k:=1) (fun i _ _=>h i (by omega)),Ae (k:=2) (fun i _ _=>h i (by omega)),Ae (k:=3) (fun i _ _=>h i (by omega))]
theorem qV {p q:Nat->Bool}(h:∀ i,i<256->p i=q i):bx p=bx q:=by
 unfold bx;apply List.map_congr_left;intro i hi;exact h i (by simpa using hi)
theorem word_inj {p q:Nat->Bool}{k:Nat}(h:word p k=word q k) {i:Nat}(h1:64*k<=i) (h2:i<64*k+64):p i=q i:=by
 have h:Gg p k=Gg q k:=by unfold word at h;omega
 have:=congrArg (fun x=>x.testBit (i-64*k)) h;simp only [Bz] at this;rw [show 64*k+(i-64*k)=i by omega] at this;have h3:i-64*k<64:=by omega
 simpa [h3] using this
theorem yFl {p q:Nat->Bool}(h:wd p=wd q) {i:Nat}(hi:i<256):p i=q i:=by
 simp only [wd,aL,and_true] at h;obtain ⟨h0,h1,h2,h3⟩:=h;by_cases a:i<64
 ·exact word_inj h0 (by omega) (by omega)
 ·by_cases b:i<128
  ·exact word_inj h1 (by omega) (by omega)
  ·by_cases c:i<192
   ·exact word_inj h2 (by omega) (by omega)
   ·exact word_inj h3 (by omega) (by omega)
theorem zBx {p:Nat->Bool}{i:Nat}(d:Bool) (hi:i<256):(bx p).getD i d=p i:=by
 simp [bx,List.getD_eq_getElem?_getD,hi]
theorem Mg {p:Nat->Bool}{i:Nat}(b:Bool):(bx p).set i b=bx (fun j=>if j=i then b else p j):=by
 apply List.ext_getElem?;intro j;by_cases hj:j<256
 ·simp only [bx,List.getElem?_set,List.length_map,List.length_range,List.getElem?_map];by_cases e:i=j
  ·subst e;simp [hj]
  ·simp [e,Ne.symm e,hj]
 ·simp only [bx,List.getElem?_set,List.length_map,List.length_range,List.getElem?_map];simp [hj];omega
theorem pR:wd (fun _=>false)=[0,0,0,0]:=by decide +kernel
theorem Vl:bx (fun _=>false)=List.replicate 256 false:=by decide +kernel
theorem wrapN {x:Nat}(h:x<2 ^ 64):IntKind.u64.wrap ((x:Nat):Int)=x:=IntWalk.u64_in _ (by omega)
theorem bvN {x:Nat}(h:x<2 ^ 64):(BitVec.ofInt 64 ((x:Nat):Int)).toNat=x:=by
 rw [BitVec.toNat_ofInt];omega
theorem ior {a b:Nat}(ha:a<2 ^ 64) (hb:b<2 ^ 64):eB .u64 .or (a:Int) (b:Int)=((a ||| b:Nat):Int):=by
 show IntKind.u64.wrap ((BitVec.ofInt 64 (a:Int) ||| BitVec.ofInt 64 (b:Int)).toNat:Int)=_;rw [BitVec.toNat_or,bvN ha,bvN hb];exact wrapN (Nat.or_lt_two_pow ha hb)
theorem yJb {a b:Nat}(ha:a<2 ^ 64) (hb:b<2 ^ 64):eB .u64 .xor (a:Int) (b:Int)=((a ^^^ b:Nat):Int):=by
 show IntKind.u64.wrap ((BitVec.ofInt 64 (a:Int) ^^^ BitVec.ofInt 64 (b:Int)).toNat:Int)=_;rw [BitVec.toNat_xor,bvN ha,bvN hb];exact wrapN (Nat.xor_lt_two_pow ha hb)
theorem yJc {a b:Nat}(ha:a<2 ^ 64) (hb:b<2 ^ 64):eB .u64 .and (a:Int) (b:Int)=((a &&& b:Nat):Int):=by
 show IntKind.u64.wrap ((BitVec.ofInt 64 (a:Int) &&& BitVec.ofInt 64 (b:Int)).toNat:Int)=_;rw [BitVec.toNat_and,bvN ha,bvN hb];exact wrapN (Nat.and_lt_two_pow _ hb)
theorem yCt (p q:Nat->Bool) (k:Nat):eB .u64 .or (word p k) (word q k)=word (fun i=>p i||q i) k:=by
 unfold word;rw [ior (qU _ _) (qU _ _),Zd (p:=fun i=>p i||q i) (Nat.or_lt_two_pow (qU p k) (qU q k))];intro j hj;simp [Bz,hj]
theorem yCu (j:Nat):(18446744073709551615:Nat).testBit j=decide (j<64):=by
 have:=Nat.testBit_two_pow_sub_one 64 j;simpa using this
theorem zZk (p:Nat->Bool) (k:Nat):eB .u64 .xor 18446744073709551615 (word p k)=word (fun i=>!p i) k:=by
 unfold word;rw [show (18446744073709551615:Int)=((18446744073709551615:Nat):Int) from rfl];rw [yJb (by omega) (qU _ _),Zd (p:=fun i=>!p i) (Nat.xor_lt_two_pow (by omega) (qU p k))];intro j hj;simp [Nat.testBit_xor,yCu,Bz,hj]
theorem zVs (p:Nat->Bool) {i:Nat}(hi:i<256):(wd p).set (i / 64) (eB .u64 .or ((wd p).getD (i / 64) 0) (((2 ^ (i % 64):Nat)):Int))=wd (fun j=>p j||decide (j=i)):=by
 have hb:2 ^ (i % 64)<2 ^ 64:=Nat.pow_lt_pow_right (by omega) (by omega);have hw:∀ k,k=i / 64->eB .u64 .or (word p k) (((2 ^ (i % 64):Nat)):Int)=word (fun j=>p j||decide (j=i)) k:=by
  intro k hk;unfold word;rw [ior (qU _ _) hb,Zd (p:=fun j=>p j||decide (j=i)) (Nat.or_lt_two_pow (qU p k) hb)];intro j hj;simp only [Nat.testBit_or,Bz,Nat.testBit_two_pow,hj,decide_true,Bool.true_and];congr 1;apply decide_eq_decide.2;omega
 have ho:∀ k,k≠i / 64->word p k=word (fun j=>p j||decide (j=i)) k:=by
  intro k hk;apply Ae;intro j h1 h2;have:j≠i:=by omega
  simp [this]
 have hk:i / 64=0∨i / 64=1∨i / 64=2∨i / 64=3:=by omega
 rcases hk with h|h|h|h<;>rw [h]<;>simp only [wd,List.getD_cons_zero,List.getD_cons_succ,List.set_cons_zero,List.set_cons_succ]
 ·rw [hw 0 h.symm,ho 1 (by omega),ho 2 (by omega),ho 3 (by omega)]
 ·rw [hw 1 h.symm,ho 0 (by omega),ho 2 (by omega),ho 3 (by omega)]
 ·rw [hw 2 h.symm,ho 0 (by omega),ho 1 (by omega),ho 3 (by omega)]
 ·rw [hw 3 h.symm,ho 0 (by omega),ho 1 (by omega),ho 2 (by omega)]
theorem zVt:((List.range 256).all fun i=>decide (nN .i64 (i:Int) 6=((i / 64:Nat):Int))&&decide (Qm .u64 1 (eB .i64 .and (i:Int) 63)=((2 ^ (i % 64):Nat):Int))&&decide (0<=eB .i64 .and (i:Int) 63)
 && decide (nN .u8 (i:Int) 6=((i / 64:Nat):Int))&&decide (Qm .u64 1 (eB .u8 .and (i:Int) 63)=((2 ^ (i % 64):Nat):Int))&&decide (0<=eB .u8 .and (i:Int) 63))=true:=by decide +kernel
theorem yJd {i:Nat}(hi:i<256):nN .i64 (i:Int) 6=((i / 64:Nat):Int)∧Qm .u64 1 (eB .i64 .and (i:Int) 63)=((2 ^ (i % 64):Nat):Int)∧0<=eB .i64 .and (i:Int) 63:=by
 have:=nK zVt hi;simp only [aD,decide_eq_true_eq] at this;exact ⟨this.1.1.1.1.1,this.1.1.1.1.2,this.1.1.1.2⟩
theorem yFm {i:Nat}(hi:i<256):nN .u8 (i:Int) 6=((i / 64:Nat):Int)∧Qm .u64 1 (eB .u8 .and (i:Int) 63)=((2 ^ (i % 64):Nat):Int)∧0<=eB .u8 .and (i:Int) 63:=by
 have:=nK zVt hi;simp only [aD,decide_eq_true_eq] at this;exact ⟨this.1.1.2,this.1.2,this.2⟩
theorem zLd:Ty.dflt (.int .u64)=(0:Int):=rfl
def bA (a b:Nat):Nat->Bool:=fun i=>decide (a<=i)&&decide (i<=b)
theorem zPh {p q:Nat->Bool}(h:∀ i,i<256->p i=q i):some (wd p)=some (wd q):=by rw [uY h]
theorem zDy {p q:Nat->Bool}(h:∀ i,i<256->p i=q i):some (bx p)=some (bx q):=by rw [qV h]
theorem Af {n a b:Nat}(hn:300<=n) (ha:a<256) (hb:b<256):dL n ((a:Int),(b:Int))=some (wd (bA a b)):=by
 unfold dL;simp only;rw [dJ (by omega) (by omega)];by_cases hab:a<=b
 ·have:=zPg (lo:=a) (B:=pY n) (r:=some (wd (bA a b))) (N:=b+1) (fun i=>((b:Int),(i:Int),wd (fun j=>decide (a<=j)&&decide (j<i)),()))
   (by
    intro i hlo hi g;have hi2:i<256:=by omega
    obtain ⟨s1,s2,s3⟩:=yJd hi2;rw [pY];simp only;have hc:i<=b:=by omega
    rw [dJ (by omega) (by omega),s1,s2];rw [aN (by simp;omega),aC (by decide),aC (kI (by omega) (by omega)),aC (by simp;omega),aC (by simpa using s3),aC (kI (by omega) (by omega)),aC (by simp;omega)];rw [dJ (by omega) (by omega),zLd,Int.toNat_natCast,zVs _ hi2];have:wd (fun j=>(decide (a<=j)&&decide (j<i))||decide (j=i))=wd (fun j=>decide (a<=j)&&decide (j<i+1)):=by
     refine uY fun j hj=>?_
     rw [Bool.eq_iff_iff];simp;omega
    rw [this];rfl)
   (by
    intro g;rw [pY];simp only;rw [aF (by rw [dJ (by omega) (by omega)];simp;omega)];refine zPh fun i hi=>?_
    simp only [bA];rw [Bool.eq_iff_iff];simp;omega)
   (b+1-a) a n (by omega) (by omega) (by omega)
  have e:wd (fun j=>decide (a<=j)&&decide (j<a))=[0,0,0,0]:=by
   rw [<- pR];refine uY fun j hj=>?_
   rw [Bool.eq_iff_iff];simp
  simp only [e] at this;exact this
 ·rw [cZ (by omega),pY];simp only;rw [aF (by rw [dJ (by omega) (by omega)];simp;omega),<- pR];refine zPh fun j hj=>?_
  simp only [bA];rw [Bool.eq_iff_iff];simp;omega
theorem zBy {n:Nat}(hn:5<=n) (p:Nat->Bool):Gm n (wd p)=some (wd fun i=>!p i):=by
 obtain ⟨m,rfl⟩:∃ m,n=m+5:=⟨n-5,by omega⟩;have h:=zZk p;have e:wd (fun i=>!p i)=[eB .u64 .xor 18446744073709551615 (word p 0),eB .u64 .xor 18446744073709551615 (word p 1),eB .u64 .xor 18446744073709551615 (word p 2),eB .u64 .xor 18446744073709551615 (word p 3)]:=by rw [h,h,h,h];rfl
 rw [e];rfl
theorem zTa {n:Nat}(hn:5<=n) (g0:List (List Int) × Int × Int × List Int × Unit->Option (List Int)) (l:List (List Int)) (c i:Int) (p q:Nat->Bool) :
  fix (Rz n g0) n (l,c,i,0,wd p,wd q,())=g0 (l,c,IntKind.wrap .i64 (i+1),wd (fun i=>p i||q i),()):=by
 obtain ⟨m,rfl⟩:∃ m,n=m+5:=⟨n-5,by omega⟩;have h:=yCt p q;have e:wd (fun i=>p i||q i)=[eB .u64 .or (word p 0) (word q 0),eB .u64 .or (word p 1) (word q 1),eB .u64 .or (word p 2) (word q 2),eB .u64 .or (word p 3) (word q 3)]:=by rw [h,h,h,h];rfl
 rw [e];rfl
theorem zFz {n:Nat}(ps:List (Nat->Bool)) (hn:5<=n) (hl:ps.length<n) (hm:ps.length<1000):oL n (ps.map wd)=some (wd fun i=>ps.any (· i)):=by
 unfold oL;simp only [List.length_map];have:=Tn (B:=zN n) (r:=some (wd fun i=>ps.any (· i))) (N:=ps.length) (fun i=>(ps.map wd,(ps.length:Int),(i:Int),wd (fun j=>(ps.take i).any (· j)),()))
  (by
   intro i hi g;rw [zN];simp only;rw [aN (by simp;omega),aC (kI (by omega) (by simp;omega))];have hg:bJ (Ty.dflt (.arr 4 (.int .u64))) (ps.map wd) (i:Int)=wd ps[i]:=by
    simp [bJ,List.getD_eq_getElem?_getD,hi]
   rw [hg,zTa hn,dJ (by omega) (by omega)];have hw:wd (fun j=>(ps.take i).any (· j)||ps[i] j)=wd (fun j=>(ps.take (i+1)).any (· j)):=by
    refine uY fun j hj=>?_
    rw [List.take_succ_eq_append_getElem hi,List.any_append];simp
   rw [hw];rfl)
  (by
   intro g;rw [zN];simp only;rw [aF (by simp)];simp)
  ps.length 0 n (by omega) hl
 simpa [pR] using this
def ofP (s:List UInt8):Nat->Bool:=fun i=>s.any fun c=>decide (c.toNat = i)
theorem kT {α:Type}{d:α}{s:List α}{i:Nat}(h:i<s.length):bJ d s (i:Int)=s[i]:=by
 simp [bJ,List.getD_eq_getElem?_getD,h]
theorem zLe {s:List UInt8}{i:Nat}(h:i<s.length):ofP (s.take (i+1))=fun j=>ofP (s.take i) j||decide (j=s[i].toNat):=by
 funext j;simp only [ofP];rw [List.take_succ_eq_append_getElem h,List.any_append];simp [eq_comm]
theorem Tp {n:Nat}(s:List UInt8) (hl:s.length<n) (hm:s.length<100000):sS n s=some (wd (ofP s)):=by
 unfold sS;simp only;have:=Tn (B:=zO n) (r:=some (wd (ofP s))) (N:=s.length) (fun i=>(s,(s.length:Int),(i:Int),wd (ofP (s.take i)),()))
  (by
   intro i hi g;have hc:s[i].toNat<256:=s[i].toNat_lt;obtain ⟨s1,s2,s3⟩:=yFm hc;rw [zO];simp only;rw [kT hi,s1,s2];rw [aN (by simp;omega),aC (mK hi),aC (by decide),aC (kI (by omega) (by omega)),aC (by simp;omega),aC (mK hi),aC (by simpa using s3),aC (kI (by omega) (by omega)),aC (by simp;omega)];rw [dJ (by omega) (by omega),zLd,Int.toNat_natCast,zVs _ hc,zLe hi];rfl)
  (by
   intro g;rw [zO];simp only;rw [aF (by simp)];simp)
  s.length 0 n (by omega) hl
 have e:wd (ofP (s.take 0))=[0,0,0,0]:=by rw [<- pR];rfl
 simp only [e] at this;simpa using this
theorem zDz {n a b:Nat}(hn:300<=n) (ha:a<256) (hb:b<256):gB n ((a:Int),(b:Int))=some (bx (bA a b)):=by
 unfold gB;simp only;rw [dJ (by omega) (by omega)];by_cases hab:a<=b
 ·have:=zPg (lo:=a) (B:=nE n) (r:=some (bx (bA a b))) (N:=b+1) (fun i=>((b:Int),(i:Int),List.replicate 256 false,bx (fun j=>decide (a<=j)&&decide (j<i)),()))
   (by
    intro i hlo hi g;have hi2:i<256:=by omega
    rw [nE];simp only;have hc:i<=b:=by omega
    rw [dJ (by omega) (by omega)];rw [aN (by simp;omega),aC (kI (by omega) (by omega)),aC (by simp;omega)];rw [dJ (by omega) (by omega),Int.toNat_natCast,Mg];have:bx (fun j=>if j=i then true else (decide (a<=j)&&decide (j<i)))=bx (fun j=>decide (a<=j)&&decide (j<i+1)):=by
     refine qV fun j hj=>?_
     rw [Bool.eq_iff_iff];split<;>simp<;>omega
    rw [this];rfl)
   (by
    intro g;rw [nE];simp only;rw [aF (by rw [dJ (by omega) (by omega)];simp;omega)];refine zDy fun i hi=>?_
    simp only [bA];rw [Bool.eq_iff_iff];simp;omega)
   (b+1-a) a n (by omega) (by omega) (by omega)
  have e:bx (fun j=>decide (a<=j)&&decide (j<a))=List.replicate 256 false:=by
   rw [<- Vl];refine qV fun j hj=>?_
   rw [Bool.eq_iff_iff];simp
  simp only [e] at this;exact this
 ·rw [cZ (by omega),nE];simp only;rw [aF (by rw [dJ (by omega) (by omega)];simp;omega),<- Vl];refine zDy fun j hj=>?_
  simp only [bA];rw [Bool.eq_iff_iff];simp;omega
theorem zOe {n:Nat}(hn:300<=n) (p q:Nat->Bool):sG n (bx p,bx q)=some (bx fun i=>p i||q i):=by
 unfold sG;simp only;have:=Tn (B:=vP n) (r:=some (bx fun i=>p i||q i)) (N:=256) (fun i=>((i:Int),bx (fun j=>if j<i then p j||q j else p j),bx q,List.replicate 256 false,()))
  (by
   intro i hi g;have key:∀ b,b=(p i||q i)->(g (((i+1:Nat):Int),bx (fun j=>if j=i then b else if j<i then p j||q j else p j),bx q,List.replicate 256 false,())=g (((i+1:Nat):Int),bx (fun j=>if j<i+1 then p j||q j else p j),bx q,List.replicate 256 false,())):=by
    intro b hb;have:bx (fun j=>if j=i then b else if j<i then p j||q j else p j)=bx (fun j=>if j<i+1 then p j||q j else p j):=by
     refine qV fun j hj=>?_
     by_cases e:j=i
     ·subst e;simp [hb]
     ·by_cases e2:j<i
      ·simp [e,e2,Nat.lt_succ_of_lt e2]
      ·simp [e,e2,show ¬ j<i+1 by omega]
    rw [this]
   rw [vP];simp only;rw [aN (by simp;omega),aC (kI (by omega) (by omega)),aC (by simp;omega),aC (kI (by omega) (by omega)),aC (by simp;omega)];rw [dJ (by omega) (by omega),Int.toNat_natCast,zBx _ hi,zBx _ hi,Mg,Mg,show (i:Int)+1=((i+1:Nat):Int) from rfl];simp only [Nat.lt_irrefl,if_false];cases hp:p i
   ·rw [aF rfl,aC (kI (by omega) (by omega)),aC (decide_eq_true hi),aC (kI (by omega) (by omega)),aC (decide_eq_true hi)];rw [key (q i) (by rw [hp];rfl)]
   ·rw [aN rfl];exact key true (by rw [hp];rfl))
  (by
   intro g;rw [vP];simp only;rw [aF (by simp)];refine zDy fun i hi=>?_
   simp [hi])
  256 0 n (by omega) (by omega)
 have e:bx (fun j=>if j<0 then p j||q j else p j)=bx p:=qV fun j hj=>by simp
 rw [e] at this;exact this
theorem zOf {n:Nat}(s:List UInt8) (hl:s.length<n) (hm:s.length<100000):Ht n s=some (bx (ofP s)):=by
 unfold Ht;simp only;have:=Tn (B:=vQ n) (r:=some (bx (ofP s))) (N:=s.length) (fun i=>(s,(i:Int),List.replicate 256 false,bx (ofP (s.take i)),()))
  (by
   intro i hi g;have hc:s[i].toNat<256:=s[i].toNat_lt;rw [vQ];simp only;rw [kT hi];rw [aN (by simp;omega),aC (mK hi),aC (kI (by omega) (by omega)),aC (by simp;omega)];rw [dJ (by omega) (by omega),Int.toNat_natCast,Mg,zLe hi];have:bx (fun j=>if j=s[i].toNat then true else ofP (s.take i) j)=bx (fun j=>ofP (s.take i) j||decide (j=s[i].toNat)):=by
    refine qV fun j hj=>?_
    by_cases e:j=s[i].toNat
    ·rw [if_pos e];simp [e]
    ·rw [if_neg e];simp [e]
   rw [this];rfl)
  (by
   intro g;rw [vQ];simp only;rw [aF (by simp)];simp)
  s.length 0 n (by omega) hl
 have e:bx (ofP (s.take 0))=List.replicate 256 false:=by rw [<- Vl];rfl
 simp only [e] at this;exact this
def bB (p:Nat->Bool):List UInt8:=((List.range 256).filter p).map UInt8.ofNat
theorem Oi (p:Nat->Bool):(bB p).length<=256:=by
 have:=List.length_filter_le p (List.range 256);simpa [bB] using this
theorem yFn {p:Nat->Bool}:wd p=[0,0,0,0]<->∀ i,i<256->p i=false:=by
 rw [<- pR];exact ⟨fun h i hi=>yFl h hi,fun h=>uY h⟩
theorem yJe {p q:Nat->Bool}:Ty.beq (.arr 4 (.int .u64)) (wd p) (wd q)=true<->wd p=wd q:=beq_iff rfl
theorem zBz {n:Nat}(hn:300<=n) (p q:Nat->Bool):fix (nG n) n (0,List.replicate 256 false,bx p,bx q,())=some (bx (fun i=>q i&&!p i),true):=by
 have:=Tn (B:=nG n) (r:=some (bx (fun i=>q i&&!p i),true)) (N:=256) (fun i=>((i:Int),List.replicate 256 false,bx p,bx (fun j=>if j<i then q j&&!p j else q j),()))
  (by
   intro i hi g;have key:∀ b,b=(q i&&!p i)->(g (((i+1:Nat):Int),List.replicate 256 false,bx p,bx (fun j=>if j=i then b else if j<i then q j&&!p j else q j),())=g (((i+1:Nat):Int),List.replicate 256 false,bx p,bx (fun j=>if j<i+1 then q j&&!p j else q j),())):=by
    intro b hb;have:bx (fun j=>if j=i then b else if j<i then q j&&!p j else q j)=bx (fun j=>if j<i+1 then q j&&!p j else q j):=by
     refine qV fun j hj=>?_
     by_cases e:j=i
     ·subst e;simp [hb]
     ·by_cases e2:j<i
      ·simp [e,e2,Nat.lt_succ_of_lt e2]
      ·simp [e,e2,show ¬ j<i+1 by omega]
    rw [this]
   rw [nG];simp only;rw [aN (by simp;omega),aC (kI (by omega) (by omega)),aC (by simp;omega)];rw [dJ (by omega) (by omega),Int.toNat_natCast,zBx _ hi,zBx _ hi,Mg,Mg,show (i:Int)+1=((i+1:Nat):Int) from rfl];simp only [Nat.lt_irrefl,if_false];cases hq:q i
   ·rw [aF rfl,aC (kI (by omega) (by omega)),aC (decide_eq_true hi)];exact key false (by rw [hq];rfl)
   ·rw [aN rfl,aC (kI (by omega) (by omega)),aC (decide_eq_true hi),aC (kI (by omega) (by omega)),aC (decide_eq_true hi)];exact key (!p i) (by rw [hq];rfl))
  (by
   intro g;rw [nG];simp only;rw [aF (by simp)];have e:bx (fun j=>if j<256 then q j&&!p j else q j)=bx (fun i=>q i&&!p i):=qV fun j hj=>by simp [hj]
   rw [e])
  256 0 n (by omega) (by omega)
 have e:bx (fun j=>if j<0 then q j&&!p j else q j)=bx q:=qV fun j hj=>by simp
 rw [e] at this;exact this
def zLf (ps:List (Nat->Bool)):Nat->Bool:=fun i=>ps.any (· i)
def Mh (s:List UInt8):Option (Nat->Bool) :=bif s==[117,112,112,101,114] then some (bA 65 90) else bif s==[108,111,119,101,114] then some (bA 97 122) else bif s==[97,108,112,104,97] then some (zLf [bA 65 90,bA 97 122]) else bif s==[100,105,103,105,116] then some (bA 48 57) else bif s==[97,108,110,117,109] then some (zLf [bA 65 90,bA 97 122,bA 48 57]) else bif s==[120,100,105,103,105,116] then some (zLf [bA 48 57,bA 65 70,bA 97 102]) else bif s==[98,108,97,110,107] then some (ofP [32,9]) else bif s==[115,112,97,99,101] then some (ofP [32,9,10,11,12,13]) else bif s==[99,110,116,114,108] then some (zLf [bA 0 31,ofP [127]]) else bif s==[103,114,97,112,104] then some (bA 33 126) else bif s==[112,114,105,110,116] then some (bA 32 126) else bif s==[112,117,110,99,116] then some (zLf [bA 33 47,bA 58 64,bA 91 96,bA 123 126]) else none
def zPi (o:Option (Nat->Bool)) (a:Option (List Int × Bool)) (b:Option (List Bool × Bool)):Prop:=match o with
 | some p=>a=some (wd p,true)∧b=some (bx p,true)
 | none=>a=some (wd fun _=>false,false)∧∃ p,b=some (bx p,false)
theorem jN {p q:Nat->Bool}(h:((List.range 256).all fun i=>p i==q i)=true) (o:Option (List Int × Bool)) (o2:Option (List Bool × Bool)) (h1:o=some (wd p,true)) (h2:o2=some (bx q,true)) :
  zPi (some p) o o2:=by
 refine ⟨h1,?_⟩;rw [h2];have:bx q=bx p:=qV fun i hi=>by have:=nK h hi;simp at this;exact this.symm
 rw [this]
theorem zTb {n:Nat}(hn:300<=n) (s:List UInt8):zPi (Mh s) (Dr n s) (Wy n s):=by
 have R:∀ a b:Nat,a<256->b<256->dL n ((a:Int),(b:Int))=some (wd (bA a b)):=fun a b ha hb=>Af hn ha hb
 have R2:∀ a b:Nat,a<256->b<256->gB n ((a:Int),(b:Int))=some (bx (bA a b)):=fun a b ha hb=>zDz hn ha hb
 have O:∀ ps:List (Nat->Bool),ps.length<10->oL n (ps.map wd)=some (wd fun i=>ps.any (· i)):=fun ps h=>zFz ps (by omega) (by omega) (by omega)
 have O2:=fun p q=>zOe hn p q
 have F:∀ s:List UInt8,s.length<10->sS n s=some (wd (ofP s)):=fun s h=>Tp s (by omega) (by omega)
 have F2:∀ s:List UInt8,s.length<10->Ht n s=some (bx (ofP s)):=fun s h=>zOf s (by omega) (by omega)
 unfold Dr Wy Mh;simp only;rw [show ((65:Int),(90:Int))=(((65:Nat):Int),((90:Nat):Int)) from rfl,show ((97:Int),(122:Int))=(((97:Nat):Int),((122:Nat):Int)) from rfl,show ((48:Int),(57:Int))=(((48:Nat):Int),((57:Nat):Int)) from rfl];rw [R 65 90 (by omega) (by omega),R 97 122 (by omega) (by omega),R 48 57 (by omega) (by omega),R2 65 90 (by omega) (by omega),R2 97 122 (by omega) (by omega),R2 48 57 (by omega) (by omega)];simp only [aP];rw [O2];simp only [aP];rw [O2];simp only [aP];cases s==[117,112,112,101,114]
 case true=>exact jN (by decide +kernel) _ _ rfl rfl
 simp only [bU,cond_false];cases s==[108,111,119,101,114]
 case true=>exact jN (by decide +kernel) _ _ rfl rfl
 simp only [bU,cond_false];cases s==[97,108,112,104,97]
 case true =>
  have:=O [bA 65 90,bA 97 122] (by decide);simp only [List.map] at this;simp only [eZ,this,aP];exact jN (by decide +kernel) _ _ rfl rfl
 simp only [bU,cond_false];cases s==[100,105,103,105,116]
 case true=>exact jN (by decide +kernel) _ _ rfl rfl
 simp only [bU,cond_false];cases s==[97,108,110,117,109]
 case true =>
  have:=O [bA 65 90,bA 97 122,bA 48 57] (by decide);simp only [List.map] at this;simp only [eZ,this,aP];exact jN (by decide +kernel) _ _ rfl rfl
 simp only [bU,cond_false];cases s==[120,100,105,103,105,116]
 case true =>
  have:=O [bA 48 57,bA 65 70,bA 97 102] (by decide);simp only [List.map] at this;simp only [eZ];rw [show ((65:Int),(70:Int))=(((65:Nat):Int),((70:Nat):Int)) from rfl,show ((97:Int),(102:Int))=(((97:Nat):Int),((102:Nat):Int)) from rfl];rw [R 65 70 (by omega) (by omega),R 97 102 (by omega) (by omega),R2 65 70 (by omega) (by omega),R2 97 102 (by omega) (by omega)];simp only [aP];rw [O2,this];simp only [aP];rw [O2];exact jN (by decide +kernel) _ _ rfl rfl
 simp only [bU,cond_false];cases s==[98,108,97,110,107]
 case true =>
  simp only [eZ];rw [F _ (by decide),F2 _ (by decide)];exact jN (by decide +kernel) _ _ rfl rfl
 simp only [bU,cond_false];cases s==[115,112,97,99,101]
 case true =>
  simp only [eZ];rw [show ((9:Int),(13:Int))=(((9:Nat):Int),((13:Nat):Int)) from rfl];rw [F _ (by decide),F2 _ (by decide),R2 9 13 (by omega) (by omega)];simp only [aP];rw [O2];exact jN (by decide +kernel) _ _ rfl rfl
 simp only [bU,cond_false];cases s==[99,110,116,114,108]
 case true =>
  simp only [eZ];rw [show ((0:Int),(31:Int))=(((0:Nat):Int),((31:Nat):Int)) from rfl,show ((127:Int),(127:Int))=(((127:Nat):Int),((127:Nat):Int)) from rfl];rw [R 0 31 (by omega) (by omega),R2 0 31 (by omega) (by omega),R2 127 127 (by omega) (by omega),F _ (by decide)];have:=O [bA 0 31,ofP [127]] (by decide);simp only [List.map] at this;simp only [aP];rw [O2,this];exact jN (by decide +kernel) _ _ rfl rfl
 simp only [bU,cond_false];cases s==[103,114,97,112,104]
 case true =>
  simp only [eZ];rw [show ((33:Int),(126:Int))=(((33:Nat):Int),((126:Nat):Int)) from rfl];rw [R 33 126 (by omega) (by omega),R2 33 126 (by omega) (by omega)];exact jN (by decide +kernel) _ _ rfl rfl
 simp only [bU,cond_false];cases s==[112,114,105,110,116]
 case true =>
  simp only [eZ];rw [show ((32:Int),(126:Int))=(((32:Nat):Int),((126:Nat):Int)) from rfl];rw [R 32 126 (by omega) (by omega),R2 32 126 (by omega) (by omega)];exact jN (by decide +kernel) _ _ rfl rfl
 simp only [bU,cond_false];cases s==[112,117,110,99,116]
 case true =>
  simp only [eZ];rw [show ((33:Int),(126:Int))=(((33:Nat):Int),((126:Nat):Int)) from rfl,show ((33:Int),(47:Int))=(((33:Nat):Int),((47:Nat):Int)) from rfl,show ((58:Int),(64:Int))=(((58:Nat):Int),((64:Nat):Int)) from rfl,show ((91:Int),(96:Int))=(((91:Nat):Int),((96:Nat):Int)) from rfl,show ((123:Int),(126:Int))=(((123:Nat):Int),((126:Nat):Int)) from rfl];rw [R 33 47 (by omega) (by omega),R 58 64 (by omega) (by omega),R 91 96 (by omega) (by omega),R 123 126 (by omega) (by omega),R2 33 126 (by omega) (by omega)];have:=O [bA 33 47,bA 58 64,bA 91 96,bA 123 126] (by decide);simp only [List.map] at this;simp only [aP];rw [this,zBz hn];exact jN (by decide +kernel) _ _ rfl rfl
 simp only [bU,cond_false];exact ⟨by rw [pR],fun _=>false,by rw [Vl]⟩
end Go.Dec
