/- Part of a proof over this seat: a library of my own, and what it says of this seat. No statement is proved here. -/
import Derived.Test.YthhbdkdofhhoeaaGreatDoorPartAW
import Derived.Test.YthhbdkdofhhoeaaGreatDoorPartAN
namespace Go.Dec
theorem aF {ρ:Type} {b:Bool} (h:b=true) (x:Option ρ):chk b x=x:=by subst h; rfl
theorem aO {ρ:Type} {b:Bool} (h:b=true) (x y:Option ρ):br b x y=x:=by subst h; rfl
theorem aJ {ρ:Type} {b:Bool} (h:b=false) (x y:Option ρ):br b x y=y:=by subst h; rfl
@[simp] theorem zNg {α γ ρ:Type} (x:α) (k:α->Option ρ) (k':γ->Option ρ):ob2 (some (.inl x)) k k'=k x:=rfl
@[simp] theorem vI {α γ ρ:Type} (x:γ) (k:α->Option ρ) (k':γ->Option ρ):ob2 (some (.inr x)) k k'=k' x:=rfl
theorem zYa {ρ α:Type} (f:α->Option ρ) (x:α):jn f x=f x:=rfl
theorem Oo {ρ α : Type} {B : (α -> Option ρ) -> α -> Option ρ} (st : Nat -> α) {N : Nat} {r : Option ρ}
    (h1 : ∀ i, i < N -> ∀ g, B g (st i) = g (st (i + 1))) (h2 : ∀ g, B g (st N) = r) : ∀ k i n, i + k = N -> k < n -> fix B n (st i) = r := by
  intro k
  induction k with
  | zero => intro i n hi hn; rw [fK hn]; have : i = N := by omega
            subst this; exact h2 _
  | succ k ih => intro i n hi hn; rw [fK (by omega), h1 i (by omega)]; exact ih (i + 1) (n - 1) (by omega) (by omega)
theorem zJt {ρ α : Type} {B : (α -> Option ρ) -> α -> Option ρ} (st : Nat -> α) {lo N : Nat} {r : Option ρ}
    (h1 : ∀ i, lo <= i -> i < N -> ∀ g, B g (st i) = g (st (i + 1))) (h2 : ∀ g, B g (st N) = r) : ∀ k i n, i + k = N -> lo <= i -> k < n -> fix B n (st i) = r := by
  intro k
  induction k with
  | zero => intro i n hi hl hn; rw [fK hn]; have : i = N := by omega
            subst this; exact h2 _
  | succ k ih => intro i n hi hl hn; rw [fK (by omega), h1 i hl (by omega)]; exact ih (i + 1) (n - 1) (by omega) (by omega) (by omega)
theorem Ie {f:Nat->Bool} {n:Nat} (h:(List.range n).all f=true) {i:Nat} (hi:i < n):f i=true:=by
 rw [List.all_eq_true] at h; exact h i (by simpa using hi)
def bn:(Nat->Bool)->Nat->Nat
 | _,0=>0
 | f,k+1=>(f 0).toNat+2 * bn (fun i=>f (i+1)) k
theorem zNh:∀ (k:Nat) (f:Nat->Bool) (j:Nat),(bn f k).testBit j=(decide (j < k) && f j)
 | 0,f,j=>by simp [bn]
 | k+1,f,j=>by
  unfold bn
  cases j with
  | zero=>simp; cases f 0 <;> simp <;> omega
  | succ j =>
   rw [Nat.testBit_succ]
   have h:((f 0).toNat+2 * bn (fun i=>f (i+1)) k) / 2=bn (fun i=>f (i+1)) k:=by cases f 0 <;> simp <;> omega
   rw [h,zNh k]; simp
theorem zUg:∀ (k:Nat) (f:Nat->Bool),bn f k < 2 ^ k
 | 0,f=>by simp [bn]
 | k+1,f=>by
  have:=zUg k (fun i=>f (i+1))
  unfold bn
  cases f 0 <;> simp [Nat.pow_succ] <;> omega
theorem zGr:∀ (k:Nat) {f g:Nat->Bool},(∀ j,j < k->f j=g j)->bn f k=bn g k
 | 0,f,g,h=>rfl
 | k+1,f,g,h=>by
  unfold bn
  rw [h 0 (by omega),zGr k (fun j hj=>h (j+1) (by omega))]
theorem zZw {x k:Nat} {f:Nat->Bool} (hx:x < 2 ^ k) (h:∀ j,j < k->x.testBit j=f j):x=bn f k:=by
 apply Nat.eq_of_testBit_eq
 intro j
 rw [zNh]
 by_cases hj:j < k
 ·simp [hj,h j hj]
 ·simp only [hj,decide_false,Bool.false_and]
  exact Nat.testBit_lt_two_pow (Nat.lt_of_lt_of_le hx (Nat.pow_le_pow_right (by omega) (by omega)))
def Jz (p:Nat->Bool) (k:Nat):Nat:=bn (fun j=>p (64 * k+j)) 64
def word (p:Nat->Bool) (k:Nat):Int:=(Jz p k:Nat)
def wd (p:Nat->Bool):List Int:=[word p 0,word p 1,word p 2,word p 3]
def bx (p:Nat->Bool):List Bool:=(List.range 256).map p
theorem sJ (p:Nat->Bool) (k:Nat):Jz p k < 2 ^ 64:=zUg _ _
theorem Ka (p:Nat->Bool) (k j:Nat):(Jz p k).testBit j=(decide (j < 64) && p (64 * k+j)):=zNh _ _ _
theorem Uv {x k:Nat} {p:Nat->Bool} (hx:x < 2 ^ 64) (h:∀ j,j < 64->x.testBit j=p (64 * k+j)):x=Jz p k:=zZw hx h
theorem xW {p q:Nat->Bool} {k:Nat} (h:∀ i,64 * k <= i->i < 64 * k+64->p i=q i):word p k=word q k:=by
 unfold word Jz; rw [zGr 64 (fun j hj=>h (64 * k+j) (by omega) (by omega))]
theorem vT {p q:Nat->Bool} (h:∀ i,i < 256->p i=q i):wd p=wd q:=by
 unfold wd
 rw [xW (fun i _ _=>h i (by omega)),xW (k:=1) (fun i _ _=>h i (by omega)),xW (k:=2) (fun i _ _=>h i (by omega)),xW (k:=3) (fun i _ _=>h i (by omega))]
theorem oL {p q:Nat->Bool} (h:∀ i,i < 256->p i=q i):bx p=bx q:=by
 unfold bx; apply List.map_congr_left; intro i hi; exact h i (by simpa using hi)
theorem word_inj {p q:Nat->Bool} {k:Nat} (h:word p k=word q k) {i:Nat} (h1:64 * k <= i) (h2:i < 64 * k+64):p i=q i:=by
 have h:Jz p k=Jz q k:=by unfold word at h; omega
 have:=congrArg (fun x=>x.testBit (i - 64 * k)) h
 simp only [Ka] at this
 rw [show 64 * k+(i - 64 * k)=i by omega] at this
 have h3:i - 64 * k < 64:=by omega
 simpa [h3] using this
theorem zYb {p q:Nat->Bool} (h:wd p=wd q) {i:Nat} (hi:i < 256):p i=q i:=by
 simp only [wd,aK,and_true] at h
 obtain ⟨h0,h1,h2,h3⟩:=h
 by_cases a:i < 64
 ·exact word_inj h0 (by omega) (by omega)
 ·by_cases b:i < 128
  ·exact word_inj h1 (by omega) (by omega)
  ·by_cases c:i < 192
   ·exact word_inj h2 (by omega) (by omega)
   ·exact word_inj h3 (by omega) (by omega)
theorem Xx {p:Nat->Bool} {i:Nat} (d:Bool) (hi:i < 256):(bx p).getD i d=p i:=by
 simp [bx,List.getD_eq_getElem?_getD,hi]
theorem Ig {p:Nat->Bool} {i:Nat} (b:Bool):(bx p).set i b=bx (fun j=>if j=i then b else p j):=by
 apply List.ext_getElem?
 intro j
 by_cases hj:j < 256
 ·simp only [bx,List.getElem?_set,List.length_map,List.length_range,List.getElem?_map]
  by_cases e:i=j
  ·subst e; simp [hj]
  ·simp [e,Ne.symm e,hj]
 ·simp only [bx,List.getElem?_set,List.length_map,List.length_range,List.getElem?_map]
  simp [hj]
  omega
theorem nM:wd (fun _=>false)=[0,0,0,0]:=by decide +kernel
theorem Qo:bx (fun _=>false)=List.replicate 256 false:=by decide +kernel
theorem wrapN {x:Nat} (h:x < 2 ^ 64):IntKind.u64.wrap ((x:Nat):Int)=x:=IntWalk.u64_in _ (by omega)
theorem bvN {x:Nat} (h:x < 2 ^ 64):(BitVec.ofInt 64 ((x:Nat):Int)).toNat=x:=by
 rw [BitVec.toNat_ofInt]; omega
theorem ior {a b:Nat} (ha:a < 2 ^ 64) (hb:b < 2 ^ 64):dP .u64 .or (a:Int) (b:Int)=((a ||| b:Nat):Int):=by
 show IntKind.u64.wrap ((BitVec.ofInt 64 (a:Int) ||| BitVec.ofInt 64 (b:Int)).toNat:Int)=_
 rw [BitVec.toNat_or,bvN ha,bvN hb]
 exact wrapN (Nat.or_lt_two_pow ha hb)
theorem yBk {a b:Nat} (ha:a < 2 ^ 64) (hb:b < 2 ^ 64):dP .u64 .xor (a:Int) (b:Int)=((a ^^^ b:Nat):Int):=by
 show IntKind.u64.wrap ((BitVec.ofInt 64 (a:Int) ^^^ BitVec.ofInt 64 (b:Int)).toNat:Int)=_
 rw [BitVec.toNat_xor,bvN ha,bvN hb]
 exact wrapN (Nat.xor_lt_two_pow ha hb)
theorem zVq (p q:Nat->Bool) (k:Nat):dP .u64 .or (word p k) (word q k)=word (fun i=>p i || q i) k:=by
 unfold word
 rw [ior (sJ _ _) (sJ _ _),Uv (p:=fun i=>p i || q i) (Nat.or_lt_two_pow (sJ p k) (sJ q k))]
 intro j hj
 simp [Ka,hj]
theorem zVr (j:Nat):(18446744073709551615:Nat).testBit j=decide (j < 64):=by
 have:=Nat.testBit_two_pow_sub_one 64 j
 simpa using this
theorem zSu (p:Nat->Bool) (k:Nat):dP .u64 .xor 18446744073709551615 (word p k)=word (fun i=>!p i) k:=by
 unfold word
 rw [show (18446744073709551615:Int)=((18446744073709551615:Nat):Int) from rfl]
 rw [yBk (by omega) (sJ _ _),Uv (p:=fun i=>!p i) (Nat.xor_lt_two_pow (by omega) (sJ p k))]
 intro j hj
 simp [Nat.testBit_xor,zVr,Ka,hj]
theorem zPq (p:Nat->Bool) {i:Nat} (hi:i < 256):(wd p).set (i / 64) (dP .u64 .or ((wd p).getD (i / 64) 0) (((2 ^ (i % 64):Nat)):Int))=wd (fun j=>p j || decide (j=i)):=by
 have hb:2 ^ (i % 64) < 2 ^ 64:=Nat.pow_lt_pow_right (by omega) (by omega)
 have hw:∀ k,k=i / 64->dP .u64 .or (word p k) (((2 ^ (i % 64):Nat)):Int)=word (fun j=>p j || decide (j=i)) k:=by
  intro k hk
  unfold word
  rw [ior (sJ _ _) hb,Uv (p:=fun j=>p j || decide (j=i)) (Nat.or_lt_two_pow (sJ p k) hb)]
  intro j hj
  simp only [Nat.testBit_or,Ka,Nat.testBit_two_pow,hj,decide_true,Bool.true_and]
  congr 1
  apply decide_eq_decide.2
  omega
 have ho:∀ k,k ≠ i / 64->word p k=word (fun j=>p j || decide (j=i)) k:=by
  intro k hk
  apply xW
  intro j h1 h2
  have:j ≠ i:=by omega
  simp [this]
 have hk:i / 64=0∨i / 64=1∨i / 64=2∨i / 64=3:=by omega
 rcases hk with h | h | h | h <;> rw [h] <;> simp only [wd,List.getD_cons_zero,List.getD_cons_succ,List.set_cons_zero,List.set_cons_succ]
 ·rw [hw 0 h.symm,ho 1 (by omega),ho 2 (by omega),ho 3 (by omega)]
 ·rw [hw 1 h.symm,ho 0 (by omega),ho 2 (by omega),ho 3 (by omega)]
 ·rw [hw 2 h.symm,ho 0 (by omega),ho 1 (by omega),ho 3 (by omega)]
 ·rw [hw 3 h.symm,ho 0 (by omega),ho 1 (by omega),ho 2 (by omega)]
theorem zPr:((List.range 256).all fun i=>decide (nG .i64 (i:Int) 6=((i / 64:Nat):Int)) && decide (Lf .u64 1 (dP .i64 .and (i:Int) 63)=((2 ^ (i % 64):Nat):Int)) && decide (0 <= dP .i64 .and (i:Int) 63)
 && decide (nG .u8 (i:Int) 6=((i / 64:Nat):Int)) && decide (Lf .u64 1 (dP .u8 .and (i:Int) 63)=((2 ^ (i % 64):Nat):Int)) && decide (0 <= dP .u8 .and (i:Int) 63))=true:=by decide +kernel
theorem yBl {i:Nat} (hi:i < 256):nG .i64 (i:Int) 6=((i / 64:Nat):Int)∧Lf .u64 1 (dP .i64 .and (i:Int) 63)=((2 ^ (i % 64):Nat):Int)∧0 <= dP .i64 .and (i:Int) 63:=by
 have:=Ie zPr hi
 simp only [aD,decide_eq_true_eq] at this
 exact ⟨this.1.1.1.1.1,this.1.1.1.1.2,this.1.1.1.2⟩
theorem yBm {i:Nat} (hi:i < 256):nG .u8 (i:Int) 6=((i / 64:Nat):Int)∧Lf .u64 1 (dP .u8 .and (i:Int) 63)=((2 ^ (i % 64):Nat):Int)∧0 <= dP .u8 .and (i:Int) 63:=by
 have:=Ie zPr hi
 simp only [aD,decide_eq_true_eq] at this
 exact ⟨this.1.1.2,this.1.2,this.2⟩
theorem zGs:Ty.dflt (.int .u64)=(0:Int):=rfl
def bP (a b:Nat):Nat->Bool:=fun i=>decide (a <= i) && decide (i <= b)
theorem zJu {p q:Nat->Bool} (h:∀ i,i < 256->p i=q i):some (wd p)=some (wd q):=by rw [vT h]
theorem Zw {p q:Nat->Bool} (h:∀ i,i < 256->p i=q i):some (bx p)=some (bx q):=by rw [oL h]
theorem xX {n a b:Nat} (hn:300 <= n) (ha:a < 256) (hb:b < 256):cO n ((a:Int),(b:Int))=some (wd (bP a b)):=by
 unfold cO
 simp only
 rw [dY (by omega) (by omega)]
 by_cases hab:a <= b
 ·have:=zJt (lo:=a) (B:=nS n) (r:=some (wd (bP a b))) (N:=b+1) (fun i=>((b:Int),(i:Int),wd (fun j=>decide (a <= j) && decide (j < i)),()))
   (by
    intro i hlo hi g
    have hi2:i < 256:=by omega
    obtain ⟨s1,s2,s3⟩:=yBl hi2
    rw [nS]
    simp only
    have hc:i <= b:=by omega
    rw [dY (by omega) (by omega),s1,s2]
    rw [aO (by simp; omega),aF (by decide),aF (jI (by omega) (by omega)),aF (by simp; omega),aF (by simpa using s3),aF (jI (by omega) (by omega)),aF (by simp; omega)]
    rw [dY (by omega) (by omega),zGs,Int.toNat_natCast,zPq _ hi2]
    have:wd (fun j=>(decide (a <= j) && decide (j < i)) || decide (j=i))=wd (fun j=>decide (a <= j) && decide (j < i+1)):=by
     refine vT fun j hj=>?_
     rw [Bool.eq_iff_iff]; simp; omega
    rw [this]; rfl)
   (by
    intro g
    rw [nS]
    simp only
    rw [aJ (by rw [dY (by omega) (by omega)]; simp; omega)]
    refine zJu fun i hi=>?_
    simp only [bP]; rw [Bool.eq_iff_iff]; simp; omega)
   (b+1 - a) a n (by omega) (by omega) (by omega)
  have e:wd (fun j=>decide (a <= j) && decide (j < a))=[0,0,0,0]:=by
   rw [<- nM]; refine vT fun j hj=>?_
   rw [Bool.eq_iff_iff]; simp
  simp only [e] at this
  exact this
 ·rw [fK (by omega),nS]
  simp only
  rw [aJ (by rw [dY (by omega) (by omega)]; simp; omega),<- nM]
  refine zJu fun j hj=>?_
  simp only [bP]; rw [Bool.eq_iff_iff]; simp; omega
theorem Xy {n:Nat} (hn:5 <= n) (p:Nat->Bool):Cn n (wd p)=some (wd fun i=>!p i):=by
 obtain ⟨m,rfl⟩:∃ m,n=m+5:=⟨n - 5,by omega⟩
 have h:=zSu p
 have e:wd (fun i=>!p i)=[dP .u64 .xor 18446744073709551615 (word p 0),dP .u64 .xor 18446744073709551615 (word p 1),dP .u64 .xor 18446744073709551615 (word p 2),dP .u64 .xor 18446744073709551615 (word p 3)]:=by rw [h,h,h,h]; rfl
 rw [e]
 rfl
theorem zNi {n:Nat} (hn:5 <= n) (g0:List (List Int) × Int × Int × List Int × Unit->Option (List Int)) (l:List (List Int)) (c i:Int) (p q:Nat->Bool) :
  fix (Ng n g0) n (l,c,i,0,wd p,wd q,())=g0 (l,c,IntKind.wrap .i64 (i+1),wd (fun i=>p i || q i),()):=by
 obtain ⟨m,rfl⟩:∃ m,n=m+5:=⟨n - 5,by omega⟩
 have h:=zVq p q
 have e:wd (fun i=>p i || q i)=[dP .u64 .or (word p 0) (word q 0),dP .u64 .or (word p 1) (word q 1),dP .u64 .or (word p 2) (word q 2),dP .u64 .or (word p 3) (word q 3)]:=by rw [h,h,h,h]; rfl
 rw [e]
 rfl
theorem zBr {n:Nat} (ps:List (Nat->Bool)) (hn:5 <= n) (hl:ps.length < n) (hm:ps.length < 1000):mQ n (ps.map wd)=some (wd fun i=>ps.any (· i)):=by
 unfold mQ
 simp only [List.length_map]
 have:=Oo (B:=xC n) (r:=some (wd fun i=>ps.any (· i))) (N:=ps.length) (fun i=>(ps.map wd,(ps.length:Int),(i:Int),wd (fun j=>(ps.take i).any (· j)),()))
  (by
   intro i hi g
   rw [xC]
   simp only
   rw [aO (by simp; omega),aF (jI (by omega) (by simp; omega))]
   have hg:bK (Ty.dflt (.arr 4 (.int .u64))) (ps.map wd) (i:Int)=wd ps[i]:=by
    simp [bK,List.getD_eq_getElem?_getD,hi]
   rw [hg,zNi hn,dY (by omega) (by omega)]
   have hw:wd (fun j=>(ps.take i).any (· j) || ps[i] j)=wd (fun j=>(ps.take (i+1)).any (· j)):=by
    refine vT fun j hj=>?_
    rw [List.take_succ_eq_append_getElem hi,List.any_append]; simp
   rw [hw]; rfl)
  (by
   intro g
   rw [xC]
   simp only
   rw [aJ (by simp)]
   simp)
  ps.length 0 n (by omega) hl
 simpa [nM] using this
def ofP (s:List UInt8):Nat->Bool:=fun i=>s.any fun c=>decide (c.toNat=i)
theorem wF {α:Type} {d:α} {s:List α} {i:Nat} (h:i < s.length):bK d s (i:Int)=s[i]:=by
 simp [bK,List.getD_eq_getElem?_getD,h]
theorem zGt {s:List UInt8} {i:Nat} (h:i < s.length):ofP (s.take (i+1))=fun j=>ofP (s.take i) j || decide (j=s[i].toNat):=by
 funext j
 simp only [ofP]
 rw [List.take_succ_eq_append_getElem h,List.any_append]
 simp [eq_comm]
theorem Oq {n:Nat} (s:List UInt8) (hl:s.length < n) (hm:s.length < 100000):qL n s=some (wd (ofP s)):=by
 unfold qL
 simp only
 have:=Oo (B:=xD n) (r:=some (wd (ofP s))) (N:=s.length) (fun i=>(s,(s.length:Int),(i:Int),wd (ofP (s.take i)),()))
  (by
   intro i hi g
   have hc:s[i].toNat < 256:=s[i].toNat_lt
   obtain ⟨s1,s2,s3⟩:=yBm hc
   rw [xD]
   simp only
   rw [wF hi,s1,s2]
   rw [aO (by simp; omega),aF (wX hi),aF (by decide),aF (jI (by omega) (by omega)),aF (by simp; omega),aF (wX hi),aF (by simpa using s3),aF (jI (by omega) (by omega)),aF (by simp; omega)]
   rw [dY (by omega) (by omega),zGs,Int.toNat_natCast,zPq _ hc,zGt hi]
   rfl)
  (by
   intro g
   rw [xD]
   simp only
   rw [aJ (by simp)]
   simp)
  s.length 0 n (by omega) hl
 have e:wd (ofP (s.take 0))=[0,0,0,0]:=by rw [<- nM]; rfl
 simp only [e] at this
 simpa using this
theorem Zx {n a b:Nat} (hn:300 <= n) (ha:a < 256) (hb:b < 256):fI n ((a:Int),(b:Int))=some (bx (bP a b)):=by
 unfold fI
 simp only
 rw [dY (by omega) (by omega)]
 by_cases hab:a <= b
 ·have:=zJt (lo:=a) (B:=lK n) (r:=some (bx (bP a b))) (N:=b+1) (fun i=>((b:Int),(i:Int),List.replicate 256 false,bx (fun j=>decide (a <= j) && decide (j < i)),()))
   (by
    intro i hlo hi g
    have hi2:i < 256:=by omega
    rw [lK]
    simp only
    have hc:i <= b:=by omega
    rw [dY (by omega) (by omega)]
    rw [aO (by simp; omega),aF (jI (by omega) (by omega)),aF (by simp; omega)]
    rw [dY (by omega) (by omega),Int.toNat_natCast,Ig]
    have:bx (fun j=>if j=i then true else (decide (a <= j) && decide (j < i)))=bx (fun j=>decide (a <= j) && decide (j < i+1)):=by
     refine oL fun j hj=>?_
     rw [Bool.eq_iff_iff]; split <;> simp <;> omega
    rw [this]; rfl)
   (by
    intro g
    rw [lK]
    simp only
    rw [aJ (by rw [dY (by omega) (by omega)]; simp; omega)]
    refine Zw fun i hi=>?_
    simp only [bP]; rw [Bool.eq_iff_iff]; simp; omega)
   (b+1 - a) a n (by omega) (by omega) (by omega)
  have e:bx (fun j=>decide (a <= j) && decide (j < a))=List.replicate 256 false:=by
   rw [<- Qo]; refine oL fun j hj=>?_
   rw [Bool.eq_iff_iff]; simp
  simp only [e] at this
  exact this
 ·rw [fK (by omega),lK]
  simp only
  rw [aJ (by rw [dY (by omega) (by omega)]; simp; omega),<- Qo]
  refine Zw fun j hj=>?_
  simp only [bP]; rw [Bool.eq_iff_iff]; simp; omega
theorem zIx {n:Nat} (hn:300 <= n) (p q:Nat->Bool):qA n (bx p,bx q)=some (bx fun i=>p i || q i):=by
 unfold qA
 simp only
 have:=Oo (B:=sZ n) (r:=some (bx fun i=>p i || q i)) (N:=256) (fun i=>((i:Int),bx (fun j=>if j < i then p j || q j else p j),bx q,List.replicate 256 false,()))
  (by
   intro i hi g
   have key:∀ b,b=(p i || q i)->(g (((i+1:Nat):Int),bx (fun j=>if j=i then b else if j < i then p j || q j else p j),bx q,List.replicate 256 false,())=g (((i+1:Nat):Int),bx (fun j=>if j < i+1 then p j || q j else p j),bx q,List.replicate 256 false,())):=by
    intro b hb
    have:bx (fun j=>if j=i then b else if j < i then p j || q j else p j)=bx (fun j=>if j < i+1 then p j || q j else p j):=by
     refine oL fun j hj=>?_
     by_cases e:j=i
     ·subst e; simp [hb]
     ·by_cases e2:j < i
      ·simp [e,e2,Nat.lt_succ_of_lt e2]
      ·simp [e,e2,show ¬ j < i+1 by omega]
    rw [this]
   rw [sZ]
   simp only
   rw [aO (by simp; omega),aF (jI (by omega) (by omega)),aF (by simp; omega),aF (jI (by omega) (by omega)),aF (by simp; omega)]
   rw [dY (by omega) (by omega),Int.toNat_natCast,Xx _ hi,Xx _ hi,Ig,Ig,show (i:Int)+1=((i+1:Nat):Int) from rfl]
   simp only [Nat.lt_irrefl,if_false]
   cases hp:p i
   ·rw [aJ rfl,aF (jI (by omega) (by omega)),aF (decide_eq_true hi),aF (jI (by omega) (by omega)),aF (decide_eq_true hi)]; rw [key (q i) (by rw [hp]; rfl)]
   ·rw [aO rfl]; exact key true (by rw [hp]; rfl))
  (by
   intro g
   rw [sZ]
   simp only
   rw [aJ (by simp)]
   refine Zw fun i hi=>?_
   simp [hi])
  256 0 n (by omega) (by omega)
 have e:bx (fun j=>if j < 0 then p j || q j else p j)=bx p:=oL fun j hj=>by simp
 rw [e] at this
 exact this
theorem zIy {n:Nat} (s:List UInt8) (hl:s.length < n) (hm:s.length < 100000):Dl n s=some (bx (ofP s)):=by
 unfold Dl
 simp only
 have:=Oo (B:=tC n) (r:=some (bx (ofP s))) (N:=s.length) (fun i=>(s,(i:Int),List.replicate 256 false,bx (ofP (s.take i)),()))
  (by
   intro i hi g
   have hc:s[i].toNat < 256:=s[i].toNat_lt
   rw [tC]
   simp only
   rw [wF hi]
   rw [aO (by simp; omega),aF (wX hi),aF (jI (by omega) (by omega)),aF (by simp; omega)]
   rw [dY (by omega) (by omega),Int.toNat_natCast,Ig,zGt hi]
   have:bx (fun j=>if j=s[i].toNat then true else ofP (s.take i) j)=bx (fun j=>ofP (s.take i) j || decide (j=s[i].toNat)):=by
    refine oL fun j hj=>?_
    by_cases e:j=s[i].toNat
    ·rw [if_pos e]; simp [e]
    ·rw [if_neg e]; simp [e]
   rw [this]; rfl)
  (by
   intro g
   rw [tC]
   simp only
   rw [aJ (by simp)]
   simp)
  s.length 0 n (by omega) hl
 have e:bx (ofP (s.take 0))=List.replicate 256 false:=by rw [<- Qo]; rfl
 simp only [e] at this
 exact this
theorem zYc {p:Nat->Bool}:wd p=[0,0,0,0] <-> ∀ i,i < 256->p i=false:=by
 rw [<- nM]
 exact ⟨fun h i hi=>zYb h hi,fun h=>vT h⟩
theorem yBn {p q:Nat->Bool}:Ty.beq (.arr 4 (.int .u64)) (wd p) (wd q)=true <-> wd p=wd q:=beq_iff rfl
theorem Xz {n:Nat} (hn:300 <= n) (p q:Nat->Bool):fix (lM n) n (0,List.replicate 256 false,bx p,bx q,())=some (bx (fun i=>q i && !p i),true):=by
 have:=Oo (B:=lM n) (r:=some (bx (fun i=>q i && !p i),true)) (N:=256) (fun i=>((i:Int),List.replicate 256 false,bx p,bx (fun j=>if j < i then q j && !p j else q j),()))
  (by
   intro i hi g
   have key:∀ b,b=(q i && !p i)->(g (((i+1:Nat):Int),List.replicate 256 false,bx p,bx (fun j=>if j=i then b else if j < i then q j && !p j else q j),())=g (((i+1:Nat):Int),List.replicate 256 false,bx p,bx (fun j=>if j < i+1 then q j && !p j else q j),())):=by
    intro b hb
    have:bx (fun j=>if j=i then b else if j < i then q j && !p j else q j)=bx (fun j=>if j < i+1 then q j && !p j else q j):=by
     refine oL fun j hj=>?_
     by_cases e:j=i
     ·subst e; simp [hb]
     ·by_cases e2:j < i
      ·simp [e,e2,Nat.lt_succ_of_lt e2]
      ·simp [e,e2,show ¬ j < i+1 by omega]
    rw [this]
   rw [lM]
   simp only
   rw [aO (by simp; omega),aF (jI (by omega) (by omega)),aF (by simp; omega)]
   rw [dY (by omega) (by omega),Int.toNat_natCast,Xx _ hi,Xx _ hi,Ig,Ig,show (i:Int)+1=((i+1:Nat):Int) from rfl]
   simp only [Nat.lt_irrefl,if_false]
   cases hq:q i
   ·rw [aJ rfl,aF (jI (by omega) (by omega)),aF (decide_eq_true hi)]; exact key false (by rw [hq]; rfl)
   ·rw [aO rfl,aF (jI (by omega) (by omega)),aF (decide_eq_true hi),aF (jI (by omega) (by omega)),aF (decide_eq_true hi)]; exact key (!p i) (by rw [hq]; rfl))
  (by
   intro g
   rw [lM]
   simp only
   rw [aJ (by simp)]
   have e:bx (fun j=>if j < 256 then q j && !p j else q j)=bx (fun i=>q i && !p i):=oL fun j hj=>by simp [hj]
   rw [e])
  256 0 n (by omega) (by omega)
 have e:bx (fun j=>if j < 0 then q j && !p j else q j)=bx q:=oL fun j hj=>by simp
 rw [e] at this
 exact this
def zGu (ps:List (Nat->Bool)):Nat->Bool:=fun i=>ps.any (· i)
def Ih (s:List UInt8):Option (Nat->Bool) :=
 bif s == [117,112,112,101,114] then some (bP 65 90)
 else bif s == [108,111,119,101,114] then some (bP 97 122)
 else bif s == [97,108,112,104,97] then some (zGu [bP 65 90,bP 97 122])
 else bif s == [100,105,103,105,116] then some (bP 48 57)
 else bif s == [97,108,110,117,109] then some (zGu [bP 65 90,bP 97 122,bP 48 57])
 else bif s == [120,100,105,103,105,116] then some (zGu [bP 48 57,bP 65 70,bP 97 102])
 else bif s == [98,108,97,110,107] then some (ofP [32,9])
 else bif s == [115,112,97,99,101] then some (ofP [32,9,10,11,12,13])
 else bif s == [99,110,116,114,108] then some (zGu [bP 0 31,ofP [127]])
 else bif s == [103,114,97,112,104] then some (bP 33 126)
 else bif s == [112,114,105,110,116] then some (bP 32 126)
 else bif s == [112,117,110,99,116] then some (zGu [bP 33 47,bP 58 64,bP 91 96,bP 123 126])
 else none
def zJv (o:Option (Nat->Bool)) (a:Option (List Int × Bool)) (b:Option (List Bool × Bool)):Prop:=match o with
 | some p=>a=some (wd p,true)∧b=some (bx p,true)
 | none=>a=some (wd fun _=>false,false)∧∃ p,b=some (bx p,false)
theorem iR {p q:Nat->Bool} (h:((List.range 256).all fun i=>p i == q i)=true) (o:Option (List Int × Bool)) (o2:Option (List Bool × Bool)) (h1:o=some (wd p,true)) (h2:o2=some (bx q,true)) :
  zJv (some p) o o2:=by
 refine ⟨h1,?_⟩
 rw [h2]
 have:bx q=bx p:=oL fun i hi=>by have:=Ie h hi; simp at this; exact this.symm
 rw [this]
theorem zNj {n:Nat} (hn:300 <= n) (s:List UInt8):zJv (Ih s) (Ae n s) (Ru n s):=by
 have R:∀ a b:Nat,a < 256->b < 256->cO n ((a:Int),(b:Int))=some (wd (bP a b)):=fun a b ha hb=>xX hn ha hb
 have R2:∀ a b:Nat,a < 256->b < 256->fI n ((a:Int),(b:Int))=some (bx (bP a b)):=fun a b ha hb=>Zx hn ha hb
 have O:∀ ps:List (Nat->Bool),ps.length < 10->mQ n (ps.map wd)=some (wd fun i=>ps.any (· i)):=fun ps h=>zBr ps (by omega) (by omega) (by omega)
 have O2:=fun p q=>zIx hn p q
 have F:∀ s:List UInt8,s.length < 10->qL n s=some (wd (ofP s)):=fun s h=>Oq s (by omega) (by omega)
 have F2:∀ s:List UInt8,s.length < 10->Dl n s=some (bx (ofP s)):=fun s h=>zIy s (by omega) (by omega)
 unfold Ae Ru Ih
 simp only
 rw [show ((65:Int),(90:Int))=(((65:Nat):Int),((90:Nat):Int)) from rfl,show ((97:Int),(122:Int))=(((97:Nat):Int),((122:Nat):Int)) from rfl,show ((48:Int),(57:Int))=(((48:Nat):Int),((57:Nat):Int)) from rfl]
 rw [R 65 90 (by omega) (by omega),R 97 122 (by omega) (by omega),R 48 57 (by omega) (by omega),R2 65 90 (by omega) (by omega),R2 97 122 (by omega) (by omega),R2 48 57 (by omega) (by omega)]
 simp only [aW]
 rw [O2]
 simp only [aW]
 rw [O2]
 simp only [aW]
 cases s == [117,112,112,101,114]
 case true=>exact iR (by decide +kernel) _ _ rfl rfl
 simp only [bX,cond_false]
 cases s == [108,111,119,101,114]
 case true=>exact iR (by decide +kernel) _ _ rfl rfl
 simp only [bX,cond_false]
 cases s == [97,108,112,104,97]
 case true =>
  have:=O [bP 65 90,bP 97 122] (by decide)
  simp only [List.map] at this
  simp only [eU,this,aW]
  exact iR (by decide +kernel) _ _ rfl rfl
 simp only [bX,cond_false]
 cases s == [100,105,103,105,116]
 case true=>exact iR (by decide +kernel) _ _ rfl rfl
 simp only [bX,cond_false]
 cases s == [97,108,110,117,109]
 case true =>
  have:=O [bP 65 90,bP 97 122,bP 48 57] (by decide)
  simp only [List.map] at this
  simp only [eU,this,aW]
  exact iR (by decide +kernel) _ _ rfl rfl
 simp only [bX,cond_false]
 cases s == [120,100,105,103,105,116]
 case true =>
  have:=O [bP 48 57,bP 65 70,bP 97 102] (by decide)
  simp only [List.map] at this
  simp only [eU]
  rw [show ((65:Int),(70:Int))=(((65:Nat):Int),((70:Nat):Int)) from rfl,show ((97:Int),(102:Int))=(((97:Nat):Int),((102:Nat):Int)) from rfl]
  rw [R 65 70 (by omega) (by omega),R 97 102 (by omega) (by omega),R2 65 70 (by omega) (by omega),R2 97 102 (by omega) (by omega)]
  simp only [aW]
  rw [O2,this]
  simp only [aW]
  rw [O2]
  exact iR (by decide +kernel) _ _ rfl rfl
 simp only [bX,cond_false]
 cases s == [98,108,97,110,107]
 case true =>
  simp only [eU]
  rw [F _ (by decide),F2 _ (by decide)]
  exact iR (by decide +kernel) _ _ rfl rfl
 simp only [bX,cond_false]
 cases s == [115,112,97,99,101]
 case true =>
  simp only [eU]
  rw [show ((9:Int),(13:Int))=(((9:Nat):Int),((13:Nat):Int)) from rfl]
  rw [F _ (by decide),F2 _ (by decide),R2 9 13 (by omega) (by omega)]
  simp only [aW]
  rw [O2]
  exact iR (by decide +kernel) _ _ rfl rfl
 simp only [bX,cond_false]
 cases s == [99,110,116,114,108]
 case true =>
  simp only [eU]
  rw [show ((0:Int),(31:Int))=(((0:Nat):Int),((31:Nat):Int)) from rfl,show ((127:Int),(127:Int))=(((127:Nat):Int),((127:Nat):Int)) from rfl]
  rw [R 0 31 (by omega) (by omega),R2 0 31 (by omega) (by omega),R2 127 127 (by omega) (by omega),F _ (by decide)]
  have:=O [bP 0 31,ofP [127]] (by decide)
  simp only [List.map] at this
  simp only [aW]
  rw [O2,this]
  exact iR (by decide +kernel) _ _ rfl rfl
 simp only [bX,cond_false]
 cases s == [103,114,97,112,104]
 case true =>
  simp only [eU]
  rw [show ((33:Int),(126:Int))=(((33:Nat):Int),((126:Nat):Int)) from rfl]
  rw [R 33 126 (by omega) (by omega),R2 33 126 (by omega) (by omega)]
  exact iR (by decide +kernel) _ _ rfl rfl
 simp only [bX,cond_false]
 cases s == [112,114,105,110,116]
 case true =>
  simp only [eU]
  rw [show ((32:Int),(126:Int))=(((32:Nat):Int),((126:Nat):Int)) from rfl]
  rw [R 32 126 (by omega) (by omega),R2 32 126 (by omega) (by omega)]
  exact iR (by decide +kernel) _ _ rfl rfl
 simp only [bX,cond_false]
 cases s == [112,117,110,99,116]
 case true =>
  simp only [eU]
  rw [show ((33:Int),(126:Int))=(((33:Nat):Int),((126:Nat):Int)) from rfl,show ((33:Int),(47:Int))=(((33:Nat):Int),((47:Nat):Int)) from rfl,show ((58:Int),(64:Int))=(((58:Nat):Int),((64:Nat):Int)) from rfl,show ((91:Int),(96:Int))=(((91:Nat):Int),((96:Nat):Int)) from rfl,show ((123:Int),(126:Int))=(((123:Nat):Int),((126:Nat):Int)) from rfl]
  rw [R 33 47 (by omega) (by omega),R 58 64 (by omega) (by omega),R 91 96 (by omega) (by omega),R 123 126 (by omega) (by omega),R2 33 126 (by omega) (by omega)]
  have:=O [bP 33 47,bP 58 64,bP 91 96,bP 123 126] (by decide)
  simp only [List.map] at this
  simp only [aW]
  rw [this,Xz hn]
  exact iR (by decide +kernel) _ _ rfl rfl
 simp only [bX,cond_false]
 exact ⟨by rw [nM],fun _=>false,by rw [Qo]⟩
end Go.Dec
