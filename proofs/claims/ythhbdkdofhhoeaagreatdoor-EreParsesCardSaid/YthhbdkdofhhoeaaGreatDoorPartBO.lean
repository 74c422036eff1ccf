/- Part of a proof over this seat: a library of my own, and what it says of this seat. No statement is proved here. -/
import Derived.Test.YthhbdkdofhhoeaaGreatDoorPartAW
import Derived.Test.YthhbdkdofhhoeaaGreatDoorPartAN
namespace Go.Dec
theorem aD {ρ:Type} {b:Bool} (h:b=true) (x:Option ρ):chk b x=x:=by subst h; rfl
theorem aK {ρ:Type} {b:Bool} (h:b=true) (x y:Option ρ):br b x y=x:=by subst h; rfl
theorem aF {ρ:Type} {b:Bool} (h:b=false) (x y:Option ρ):br b x y=y:=by subst h; rfl
@[simp] theorem zXa {α γ ρ:Type} (x:α) (k:α->Option ρ) (k':γ->Option ρ):ob2 (some (.inl x)) k k'=k x:=rfl
@[simp] theorem yH {α γ ρ:Type} (x:γ) (k:α->Option ρ) (k':γ->Option ρ):ob2 (some (.inr x)) k k'=k' x:=rfl
theorem mI {ρ α:Type} (f:α->Option ρ) (x:α):jn f x=f x:=rfl
theorem Bl {ρ α : Type} {B : (α -> Option ρ) -> α -> Option ρ} (st : Nat -> α) {N : Nat} {r : Option ρ}
    (h1 : ∀ i, i < N -> ∀ g, B g (st i) = g (st (i + 1))) (h2 : ∀ g, B g (st N) = r) : ∀ k i n, i + k = N -> k < n -> fix B n (st i) = r := by
  intro k
  induction k with
  | zero => intro i n hi hn; rw [dL hn]; have : i = N := by omega
            subst this; exact h2 _
  | succ k ih => intro i n hi hn; rw [dL (by omega), h1 i (by omega)]; exact ih (i + 1) (n - 1) (by omega) (by omega)
theorem zTe {ρ α : Type} {B : (α -> Option ρ) -> α -> Option ρ} (st : Nat -> α) {lo N : Nat} {r : Option ρ}
    (h1 : ∀ i, lo <= i -> i < N -> ∀ g, B g (st i) = g (st (i + 1))) (h2 : ∀ g, B g (st N) = r) : ∀ k i n, i + k = N -> lo <= i -> k < n -> fix B n (st i) = r := by
  intro k
  induction k with
  | zero => intro i n hi hl hn; rw [dL hn]; have : i = N := by omega
            subst this; exact h2 _
  | succ k ih => intro i n hi hl hn; rw [dL (by omega), h1 i hl (by omega)]; exact ih (i + 1) (n - 1) (by omega) (by omega) (by omega)
theorem Om {f:Nat->Bool} {n:Nat} (h:(List.range n).all f=true) {i:Nat} (hi:i < n):f i=true:=by
 rw [List.all_eq_true] at h; exact h i (by simpa using hi)
def bn:(Nat->Bool)->Nat->Nat
 | _,0=>0
 | f,k+1=>(f 0).toNat+2 * bn (fun i=>f (i+1)) k
theorem zXb:∀ (k:Nat) (f:Nat->Bool) (j:Nat),(bn f k).testBit j=(decide (j < k) && f j)
 | 0,f,j=>by simp [bn]
 | k+1,f,j=>by
  unfold bn
  cases j with
  | zero=>simp; cases f 0 <;> simp <;> omega
  | succ j =>
   rw [Nat.testBit_succ]
   have h:((f 0).toNat+2 * bn (fun i=>f (i+1)) k) / 2=bn (fun i=>f (i+1)) k:=by cases f 0 <;> simp <;> omega
   rw [h,zXb k]; simp
theorem zXc:∀ (k:Nat) (f:Nat->Bool),bn f k < 2 ^ k
 | 0,f=>by simp [bn]
 | k+1,f=>by
  have:=zXc k (fun i=>f (i+1))
  unfold bn
  cases f 0 <;> simp [Nat.pow_succ] <;> omega
theorem zCd:∀ (k:Nat) {f g:Nat->Bool},(∀ j,j < k->f j=g j)->bn f k=bn g k
 | 0,f,g,h=>rfl
 | k+1,f,g,h=>by
  unfold bn
  rw [h 0 (by omega),zCd k (fun j hj=>h (j+1) (by omega))]
theorem yLx {x k:Nat} {f:Nat->Bool} (hx:x < 2 ^ k) (h:∀ j,j < k->x.testBit j=f j):x=bn f k:=by
 apply Nat.eq_of_testBit_eq
 intro j
 rw [zXb]
 by_cases hj:j < k
 ·simp [hj,h j hj]
 ·simp only [hj,decide_false,Bool.false_and]
  exact Nat.testBit_lt_two_pow (Nat.lt_of_lt_of_le hx (Nat.pow_le_pow_right (by omega) (by omega)))
def Li (p:Nat->Bool) (k:Nat):Nat:=bn (fun j=>p (64 * k+j)) 64
def word (p:Nat->Bool) (k:Nat):Int:=(Li p k:Nat)
def wd (p:Nat->Bool):List Int:=[word p 0,word p 1,word p 2,word p 3]
def bx (p:Nat->Bool):List Bool:=(List.range 256).map p
theorem vQ (p:Nat->Bool) (k:Nat):Li p k < 2 ^ 64:=zXc _ _
theorem Qx (p:Nat->Bool) (k j:Nat):(Li p k).testBit j=(decide (j < 64) && p (64 * k+j)):=zXb _ _ _
theorem zCe {x k:Nat} {p:Nat->Bool} (hx:x < 2 ^ 64) (h:∀ j,j < 64->x.testBit j=p (64 * k+j)):x=Li p k:=yLx hx h
theorem Bn {p q:Nat->Bool} {k:Nat} (h:∀ i,64 * k <= i->i < 64 * k+64->p i=q i):word p k=word q k:=by
 unfold word Li; rw [zCd 64 (fun j hj=>h (64 * k+j) (by omega) (by omega))]
theorem yY {p q:Nat->Bool} (h:∀ i,i < 256->p i=q i):wd p=wd q:=by
 unfold wd
 rw [Bn (fun i _ _=>h i (by omega)),Bn (k:=1) (fun i _ _=>h i (by omega)),Bn (k:=2) (fun i _ _=>h i (by omega)),Bn (k:=3) (fun i _ _=>h i (by omega))]
theorem kJ {p q:Nat->Bool} (h:∀ i,i < 256->p i=q i):bx p=bx q:=by
 unfold bx; apply List.map_congr_left; intro i hi; exact h i (by simpa using hi)
theorem word_inj {p q:Nat->Bool} {k:Nat} (h:word p k=word q k) {i:Nat} (h1:64 * k <= i) (h2:i < 64 * k+64):p i=q i:=by
 have h:Li p k=Li q k:=by unfold word at h; omega
 have:=congrArg (fun x=>x.testBit (i - 64 * k)) h
 simp only [Qx] at this
 rw [show 64 * k+(i - 64 * k)=i by omega] at this
 have h3:i - 64 * k < 64:=by omega
 simpa [h3] using this
theorem yJr {p q:Nat->Bool} (h:wd p=wd q) {i:Nat} (hi:i < 256):p i=q i:=by
 simp only [wd,aL,and_true] at h
 obtain ⟨h0,h1,h2,h3⟩:=h
 by_cases a:i < 64
 ·exact word_inj h0 (by omega) (by omega)
 ·by_cases b:i < 128
  ·exact word_inj h1 (by omega) (by omega)
  ·by_cases c:i < 192
   ·exact word_inj h2 (by omega) (by omega)
   ·exact word_inj h3 (by omega) (by omega)
theorem Jw {p:Nat->Bool} {i:Nat} (d:Bool) (hi:i < 256):(bx p).getD i d=p i:=by
 simp [bx,List.getD_eq_getElem?_getD,hi]
theorem Jy {p:Nat->Bool} {i:Nat} (b:Bool):(bx p).set i b=bx (fun j=>if j=i then b else p j):=by
 apply List.ext_getElem?
 intro j
 by_cases hj:j < 256
 ·simp only [bx,List.getElem?_set,List.length_map,List.length_range,List.getElem?_map]
  by_cases e:i=j
  ·subst e; simp [hj]
  ·simp [e,Ne.symm e,hj]
 ·simp only [bx,List.getElem?_set,List.length_map,List.length_range,List.getElem?_map]
  simp [hj]
  omega
theorem pV:wd (fun _=>false)=[0,0,0,0]:=by decide +kernel
theorem Df:bx (fun _=>false)=List.replicate 256 false:=by decide +kernel
theorem wrapN {x:Nat} (h:x < 2 ^ 64):IntKind.u64.wrap ((x:Nat):Int)=x:=IntWalk.u64_in _ (by omega)
theorem bvN {x:Nat} (h:x < 2 ^ 64):(BitVec.ofInt 64 ((x:Nat):Int)).toNat=x:=by
 rw [BitVec.toNat_ofInt]; omega
theorem ior {a b:Nat} (ha:a < 2 ^ 64) (hb:b < 2 ^ 64):eX .u64 .or (a:Int) (b:Int)=((a ||| b:Nat):Int):=by
 show IntKind.u64.wrap ((BitVec.ofInt 64 (a:Int) ||| BitVec.ofInt 64 (b:Int)).toNat:Int)=_
 rw [BitVec.toNat_or,bvN ha,bvN hb]
 exact wrapN (Nat.or_lt_two_pow ha hb)
theorem yOa {a b:Nat} (ha:a < 2 ^ 64) (hb:b < 2 ^ 64):eX .u64 .xor (a:Int) (b:Int)=((a ^^^ b:Nat):Int):=by
 show IntKind.u64.wrap ((BitVec.ofInt 64 (a:Int) ^^^ BitVec.ofInt 64 (b:Int)).toNat:Int)=_
 rw [BitVec.toNat_xor,bvN ha,bvN hb]
 exact wrapN (Nat.xor_lt_two_pow ha hb)
theorem yGj (p q:Nat->Bool) (k:Nat):eX .u64 .or (word p k) (word q k)=word (fun i=>p i || q i) k:=by
 unfold word
 rw [ior (vQ _ _) (vQ _ _),zCe (p:=fun i=>p i || q i) (Nat.or_lt_two_pow (vQ p k) (vQ q k))]
 intro j hj
 simp [Qx,hj]
theorem yGk (j:Nat):(18446744073709551615:Nat).testBit j=decide (j < 64):=by
 have:=Nat.testBit_two_pow_sub_one 64 j
 simpa using this
theorem yDg (p:Nat->Bool) (k:Nat):eX .u64 .xor 18446744073709551615 (word p k)=word (fun i=>!p i) k:=by
 unfold word
 rw [show (18446744073709551615:Int)=((18446744073709551615:Nat):Int) from rfl]
 rw [yOa (by omega) (vQ _ _),zCe (p:=fun i=>!p i) (Nat.xor_lt_two_pow (by omega) (vQ p k))]
 intro j hj
 simp [Nat.testBit_xor,yGk,Qx,hj]
theorem zZs (p:Nat->Bool) {i:Nat} (hi:i < 256):(wd p).set (i / 64) (eX .u64 .or ((wd p).getD (i / 64) 0) (((2 ^ (i % 64):Nat)):Int))=wd (fun j=>p j || decide (j=i)):=by
 have hb:2 ^ (i % 64) < 2 ^ 64:=Nat.pow_lt_pow_right (by omega) (by omega)
 have hw:∀ k,k=i / 64->eX .u64 .or (word p k) (((2 ^ (i % 64):Nat)):Int)=word (fun j=>p j || decide (j=i)) k:=by
  intro k hk
  unfold word
  rw [ior (vQ _ _) hb,zCe (p:=fun j=>p j || decide (j=i)) (Nat.or_lt_two_pow (vQ p k) hb)]
  intro j hj
  simp only [Nat.testBit_or,Qx,Nat.testBit_two_pow,hj,decide_true,Bool.true_and]
  congr 1
  apply decide_eq_decide.2
  omega
 have ho:∀ k,k ≠ i / 64->word p k=word (fun j=>p j || decide (j=i)) k:=by
  intro k hk
  apply Bn
  intro j h1 h2
  have:j ≠ i:=by omega
  simp [this]
 have hk:i / 64=0∨i / 64=1∨i / 64=2∨i / 64=3:=by omega
 rcases hk with h | h | h | h <;> rw [h] <;> simp only [wd,List.getD_cons_zero,List.getD_cons_succ,List.set_cons_zero,List.set_cons_succ]
 ·rw [hw 0 h.symm,ho 1 (by omega),ho 2 (by omega),ho 3 (by omega)]
 ·rw [hw 1 h.symm,ho 0 (by omega),ho 2 (by omega),ho 3 (by omega)]
 ·rw [hw 2 h.symm,ho 0 (by omega),ho 1 (by omega),ho 3 (by omega)]
 ·rw [hw 3 h.symm,ho 0 (by omega),ho 1 (by omega),ho 2 (by omega)]
theorem zZt:((List.range 256).all fun i=>decide (pJ .i64 (i:Int) 6=((i / 64:Nat):Int)) && decide (Sk .u64 1 (eX .i64 .and (i:Int) 63)=((2 ^ (i % 64):Nat):Int)) && decide (0 <= eX .i64 .and (i:Int) 63)
 && decide (pJ .u8 (i:Int) 6=((i / 64:Nat):Int)) && decide (Sk .u64 1 (eX .u8 .and (i:Int) 63)=((2 ^ (i % 64):Nat):Int)) && decide (0 <= eX .u8 .and (i:Int) 63))=true:=by decide +kernel
theorem yOb {i:Nat} (hi:i < 256):pJ .i64 (i:Int) 6=((i / 64:Nat):Int)∧Sk .u64 1 (eX .i64 .and (i:Int) 63)=((2 ^ (i % 64):Nat):Int)∧0 <= eX .i64 .and (i:Int) 63:=by
 have:=Om zZt hi
 simp only [aG,decide_eq_true_eq] at this
 exact ⟨this.1.1.1.1.1,this.1.1.1.1.2,this.1.1.1.2⟩
theorem yOc {i:Nat} (hi:i < 256):pJ .u8 (i:Int) 6=((i / 64:Nat):Int)∧Sk .u64 1 (eX .u8 .and (i:Int) 63)=((2 ^ (i % 64):Nat):Int)∧0 <= eX .u8 .and (i:Int) 63:=by
 have:=Om zZt hi
 simp only [aG,decide_eq_true_eq] at this
 exact ⟨this.1.1.2,this.1.2,this.2⟩
theorem zCf:Ty.dflt (.int .u64)=(0:Int):=rfl
def bU (a b:Nat):Nat->Bool:=fun i=>decide (a <= i) && decide (i <= b)
theorem zTf {p q:Nat->Bool} (h:∀ i,i < 256->p i=q i):some (wd p)=some (wd q):=by rw [yY h]
theorem Yd {p q:Nat->Bool} (h:∀ i,i < 256->p i=q i):some (bx p)=some (bx q):=by rw [kJ h]
theorem Bo {n a b:Nat} (hn:300 <= n) (ha:a < 256) (hb:b < 256):dO n ((a:Int),(b:Int))=some (wd (bU a b)):=by
 unfold dO
 simp only
 rw [bD (by omega) (by omega)]
 by_cases hab:a <= b
 ·have:=zTe (lo:=a) (B:=qC n) (r:=some (wd (bU a b))) (N:=b+1) (fun i=>((b:Int),(i:Int),wd (fun j=>decide (a <= j) && decide (j < i)),()))
   (by
    intro i hlo hi g
    have hi2:i < 256:=by omega
    obtain ⟨s1,s2,s3⟩:=yOb hi2
    rw [qC]
    simp only
    have hc:i <= b:=by omega
    rw [bD (by omega) (by omega),s1,s2]
    rw [aK (by simp; omega),aD (by decide),aD (eU (by omega) (by omega)),aD (by simp; omega),aD (by simpa using s3),aD (eU (by omega) (by omega)),aD (by simp; omega)]
    rw [bD (by omega) (by omega),zCf,Int.toNat_natCast,zZs _ hi2]
    have:wd (fun j=>(decide (a <= j) && decide (j < i)) || decide (j=i))=wd (fun j=>decide (a <= j) && decide (j < i+1)):=by
     refine yY fun j hj=>?_
     rw [Bool.eq_iff_iff]; simp; omega
    rw [this]; rfl)
   (by
    intro g
    rw [qC]
    simp only
    rw [aF (by rw [bD (by omega) (by omega)]; simp; omega)]
    refine zTf fun i hi=>?_
    simp only [bU]; rw [Bool.eq_iff_iff]; simp; omega)
   (b+1 - a) a n (by omega) (by omega) (by omega)
  have e:wd (fun j=>decide (a <= j) && decide (j < a))=[0,0,0,0]:=by
   rw [<- pV]; refine yY fun j hj=>?_
   rw [Bool.eq_iff_iff]; simp
  simp only [e] at this
  exact this
 ·rw [dL (by omega),qC]
  simp only
  rw [aF (by rw [bD (by omega) (by omega)]; simp; omega),<- pV]
  refine zTf fun j hj=>?_
  simp only [bU]; rw [Bool.eq_iff_iff]; simp; omega
theorem zFk {n:Nat} (hn:5 <= n) (p:Nat->Bool):Ia n (wd p)=some (wd fun i=>!p i):=by
 obtain ⟨m,rfl⟩:∃ m,n=m+5:=⟨n - 5,by omega⟩
 have h:=yDg p
 have e:wd (fun i=>!p i)=[eX .u64 .xor 18446744073709551615 (word p 0),eX .u64 .xor 18446744073709551615 (word p 1),eX .u64 .xor 18446744073709551615 (word p 2),eX .u64 .xor 18446744073709551615 (word p 3)]:=by rw [h,h,h,h]; rfl
 rw [e]
 rfl
theorem zXd {n:Nat} (hn:5 <= n) (g0:List (List Int) × Int × Int × List Int × Unit->Option (List Int)) (l:List (List Int)) (c i:Int) (p q:Nat->Bool) :
  fix (Ug n g0) n (l,c,i,0,wd p,wd q,())=g0 (l,c,IntKind.wrap .i64 (i+1),wd (fun i=>p i || q i),()):=by
 obtain ⟨m,rfl⟩:∃ m,n=m+5:=⟨n - 5,by omega⟩
 have h:=yGj p q
 have e:wd (fun i=>p i || q i)=[eX .u64 .or (word p 0) (word q 0),eX .u64 .or (word p 1) (word q 1),eX .u64 .or (word p 2) (word q 2),eX .u64 .or (word p 3) (word q 3)]:=by rw [h,h,h,h]; rfl
 rw [e]
 rfl
theorem zJr {n:Nat} (ps:List (Nat->Bool)) (hn:5 <= n) (hl:ps.length < n) (hm:ps.length < 1000):oD n (ps.map wd)=some (wd fun i=>ps.any (· i)):=by
 unfold oD
 simp only [List.length_map]
 have:=Bl (B:=Ah n) (r:=some (wd fun i=>ps.any (· i))) (N:=ps.length) (fun i=>(ps.map wd,(ps.length:Int),(i:Int),wd (fun j=>(ps.take i).any (· j)),()))
  (by
   intro i hi g
   rw [Ah]
   simp only
   rw [aK (by simp; omega),aD (eU (by omega) (by simp; omega))]
   have hg:aU (Ty.dflt (.arr 4 (.int .u64))) (ps.map wd) (i:Int)=wd ps[i]:=by
    simp [aU,List.getD_eq_getElem?_getD,hi]
   rw [hg,zXd hn,bD (by omega) (by omega)]
   have hw:wd (fun j=>(ps.take i).any (· j) || ps[i] j)=wd (fun j=>(ps.take (i+1)).any (· j)):=by
    refine yY fun j hj=>?_
    rw [List.take_succ_eq_append_getElem hi,List.any_append]; simp
   rw [hw]; rfl)
  (by
   intro g
   rw [Ah]
   simp only
   rw [aF (by simp)]
   simp)
  ps.length 0 n (by omega) hl
 simpa [pV] using this
def ofP (s:List UInt8):Nat->Bool:=fun i=>s.any fun c=>decide (c.toNat=i)
theorem qN {α:Type} {d:α} {s:List α} {i:Nat} (h:i < s.length):aU d s (i:Int)=s[i]:=by
 simp [aU,List.getD_eq_getElem?_getD,h]
theorem zPq {s:List UInt8} {i:Nat} (h:i < s.length):ofP (s.take (i+1))=fun j=>ofP (s.take i) j || decide (j=s[i].toNat):=by
 funext j
 simp only [ofP]
 rw [List.take_succ_eq_append_getElem h,List.any_append]
 simp [eq_comm]
theorem Vz {n:Nat} (s:List UInt8) (hl:s.length < n) (hm:s.length < 100000):tH n s=some (wd (ofP s)):=by
 unfold tH
 simp only
 have:=Bl (B:=Ai n) (r:=some (wd (ofP s))) (N:=s.length) (fun i=>(s,(s.length:Int),(i:Int),wd (ofP (s.take i)),()))
  (by
   intro i hi g
   have hc:s[i].toNat < 256:=s[i].toNat_lt
   obtain ⟨s1,s2,s3⟩:=yOc hc
   rw [Ai]
   simp only
   rw [qN hi,s1,s2]
   rw [aK (by simp; omega),aD (qW hi),aD (by decide),aD (eU (by omega) (by omega)),aD (by simp; omega),aD (qW hi),aD (by simpa using s3),aD (eU (by omega) (by omega)),aD (by simp; omega)]
   rw [bD (by omega) (by omega),zCf,Int.toNat_natCast,zZs _ hc,zPq hi]
   rfl)
  (by
   intro g
   rw [Ai]
   simp only
   rw [aF (by simp)]
   simp)
  s.length 0 n (by omega) hl
 have e:wd (ofP (s.take 0))=[0,0,0,0]:=by rw [<- pV]; rfl
 simp only [e] at this
 simpa using this
theorem wO {n a b:Nat} (hn:300 <= n) (ha:a < 256) (hb:b < 256):dH n ((a:Int),(b:Int))=some (bx (bU a b)):=by
 unfold dH
 simp only
 rw [bD (by omega) (by omega)]
 by_cases hab:a <= b
 ·have:=zTe (lo:=a) (B:=nA n) (r:=some (bx (bU a b))) (N:=b+1) (fun i=>((b:Int),(i:Int),List.replicate 256 false,bx (fun j=>decide (a <= j) && decide (j < i)),()))
   (by
    intro i hlo hi g
    have hi2:i < 256:=by omega
    rw [nA]
    simp only
    have hc:i <= b:=by omega
    rw [bD (by omega) (by omega)]
    rw [aK (by simp; omega),aD (eU (by omega) (by omega)),aD (by simp; omega)]
    rw [bD (by omega) (by omega),Int.toNat_natCast,Jy]
    have:bx (fun j=>if j=i then true else (decide (a <= j) && decide (j < i)))=bx (fun j=>decide (a <= j) && decide (j < i+1)):=by
     refine kJ fun j hj=>?_
     rw [Bool.eq_iff_iff]; split <;> simp <;> omega
    rw [this]; rfl)
   (by
    intro g
    rw [nA]
    simp only
    rw [aF (by rw [bD (by omega) (by omega)]; simp; omega)]
    refine Yd fun i hi=>?_
    simp only [bU]; rw [Bool.eq_iff_iff]; simp; omega)
   (b+1 - a) a n (by omega) (by omega) (by omega)
  have e:bx (fun j=>decide (a <= j) && decide (j < a))=List.replicate 256 false:=by
   rw [<- Df]; refine kJ fun j hj=>?_
   rw [Bool.eq_iff_iff]; simp
  simp only [e] at this
  exact this
 ·rw [dL (by omega),nA]
  simp only
  rw [aF (by rw [bD (by omega) (by omega)]; simp; omega),<- Df]
  refine Yd fun j hj=>?_
  simp only [bU]; rw [Bool.eq_iff_iff]; simp; omega
theorem zPr {n:Nat} (hn:300 <= n) (p:Nat->Bool):Er n (bx p)=some (bx fun i=>!p i):=by
 unfold Er
 simp only
 have:=Bl (B:=uO n) (r:=some (bx fun i=>!p i)) (N:=256) (fun i=>((i:Int),bx (fun j=>if j < i then !p j else p j),List.replicate 256 false,()))
  (by
   intro i hi g
   rw [uO]
   simp only
   rw [aK (by simp; omega),aD (eU (by omega) (by omega)),aD (by simp; omega),aD (eU (by omega) (by omega)),aD (by simp; omega)]
   rw [bD (by omega) (by omega),Int.toNat_natCast,Jw _ hi,Jy]
   have:bx (fun j=>if j=i then !(if i < i then !p i else p i) else if j < i then !p j else p j)=bx (fun j=>if j < i+1 then !p j else p j):=by
    refine kJ fun j hj=>?_
    by_cases e:j=i
    ·subst e; simp
    ·by_cases e2:j < i
     ·simp [e,e2,Nat.lt_succ_of_lt e2]
     ·simp [e,e2,show ¬ j < i+1 by omega]
   rw [this]; rfl)
  (by
   intro g
   rw [uO]
   simp only
   rw [aF (by simp)]
   refine Yd fun i hi=>?_
   simp [hi])
  256 0 n (by omega) (by omega)
 have e:bx (fun j=>if j < 0 then !p j else p j)=bx p:=kJ fun j hj=>by simp
 rw [e] at this
 exact this
theorem Dz {n:Nat} (hn:300 <= n) (p q:Nat->Bool):jR n (bx p,bx q)=some (bx fun i=>p i || q i):=by
 unfold jR
 simp only
 have:=Bl (B:=wE n) (r:=some (bx fun i=>p i || q i)) (N:=256) (fun i=>((i:Int),bx (fun j=>if j < i then p j || q j else p j),bx q,List.replicate 256 false,()))
  (by
   intro i hi g
   have key:∀ b,b=(p i || q i)->(g (((i+1:Nat):Int),bx (fun j=>if j=i then b else if j < i then p j || q j else p j),bx q,List.replicate 256 false,())=g (((i+1:Nat):Int),bx (fun j=>if j < i+1 then p j || q j else p j),bx q,List.replicate 256 false,())):=by
    intro b hb
    have:bx (fun j=>if j=i then b else if j < i then p j || q j else p j)=bx (fun j=>if j < i+1 then p j || q j else p j):=by
     refine kJ fun j hj=>?_
     by_cases e:j=i
     ·subst e; simp [hb]
     ·by_cases e2:j < i
      ·simp [e,e2,Nat.lt_succ_of_lt e2]
      ·simp [e,e2,show ¬ j < i+1 by omega]
    rw [this]
   rw [wE]
   simp only
   rw [aK (by simp; omega),aD (eU (by omega) (by omega)),aD (by simp; omega),aD (eU (by omega) (by omega)),aD (by simp; omega)]
   rw [bD (by omega) (by omega),Int.toNat_natCast,Jw _ hi,Jw _ hi,Jy,Jy,show (i:Int)+1=((i+1:Nat):Int) from rfl]
   simp only [Nat.lt_irrefl,if_false]
   cases hp:p i
   ·rw [aF rfl,aD (eU (by omega) (by omega)),aD (decide_eq_true hi),aD (eU (by omega) (by omega)),aD (decide_eq_true hi)]; rw [key (q i) (by rw [hp]; rfl)]
   ·rw [aK rfl]; exact key true (by rw [hp]; rfl))
  (by
   intro g
   rw [wE]
   simp only
   rw [aF (by simp)]
   refine Yd fun i hi=>?_
   simp [hi])
  256 0 n (by omega) (by omega)
 have e:bx (fun j=>if j < 0 then p j || q j else p j)=bx p:=kJ fun j hj=>by simp
 rw [e] at this
 exact this
theorem Ea {n:Nat} (s:List UInt8) (hl:s.length < n) (hm:s.length < 100000):oF n s=some (bx (ofP s)):=by
 unfold oF
 simp only
 have:=Bl (B:=wF n) (r:=some (bx (ofP s))) (N:=s.length) (fun i=>(s,(i:Int),List.replicate 256 false,bx (ofP (s.take i)),()))
  (by
   intro i hi g
   have hc:s[i].toNat < 256:=s[i].toNat_lt
   rw [wF]
   simp only
   rw [qN hi]
   rw [aK (by simp; omega),aD (qW hi),aD (eU (by omega) (by omega)),aD (by simp; omega)]
   rw [bD (by omega) (by omega),Int.toNat_natCast,Jy,zPq hi]
   have:bx (fun j=>if j=s[i].toNat then true else ofP (s.take i) j)=bx (fun j=>ofP (s.take i) j || decide (j=s[i].toNat)):=by
    refine kJ fun j hj=>?_
    by_cases e:j=s[i].toNat
    ·rw [if_pos e]; simp [e]
    ·rw [if_neg e]; simp [e]
   rw [this]; rfl)
  (by
   intro g
   rw [wF]
   simp only
   rw [aF (by simp)]
   simp)
  s.length 0 n (by omega) hl
 have e:bx (ofP (s.take 0))=List.replicate 256 false:=by rw [<- Df]; rfl
 simp only [e] at this
 exact this
def Bp (p:Nat->Bool):List UInt8:=((List.range 256).filter p).map UInt8.ofNat
theorem zHs {n:Nat} (hn:300 <= n) (p:Nat->Bool):xP n (bx p)=some (Bp p):=by
 unfold xP
 simp only
 have:=Bl (B:=rD n) (r:=some (Bp p)) (N:=256) (fun i=>((i:Int),bx p,((List.range i).filter p).map (fun j=>((j:Nat):Int)),()))
  (by
   intro i hi g
   have hle:((List.range i).filter p).length <= i:=by have:=List.length_filter_le p (List.range i); simpa using this
   rw [rD]
   simp only
   rw [aK (by simp; omega),aD (eU (by omega) (by omega)),aD (by simp; omega)]
   rw [bD (by omega) (by omega),Int.toNat_natCast,Jw _ hi,show (i:Int)+1=((i+1:Nat):Int) from rfl,IntWalk.u8_in _ (by omega),List.range_succ]
   cases hp:p i
   ·rw [aF rfl]; simp [hp]
   ·rw [aK rfl,aD (by simp [room]; omega)]; simp [hp])
  (by
   intro g
   rw [rD]
   simp only
   rw [aF (by simp)]
   simp [nY,Bp])
  256 0 n (by omega) (by omega)
 exact this
theorem Rv {n:Nat} (hn:300 <= n) (p:Nat->Bool):Am n (bx p)=some ((Bp p).length:Int):=by
 unfold Am
 simp only
 rw [zHs hn]; rfl
theorem zSa {p:Nat->Bool}:(Bp p).length=0 <-> ∀ i,i < 256->p i=false:=by
 simp [Bp,List.filter_eq_nil_iff]
theorem yJs {p:Nat->Bool}:wd p=[0,0,0,0] <-> ∀ i,i < 256->p i=false:=by
 rw [<- pV]
 exact ⟨fun h i hi=>yJr h hi,fun h=>yY h⟩
theorem yOd {p q:Nat->Bool}:Ty.beq (.arr 4 (.int .u64)) (wd p) (wd q)=true <-> wd p=wd q:=beq_iff rfl
def vN (p:Nat->Bool) (i k:Nat):Nat:=bn (fun j=>p (max i (64 * k)+j)) (64 * (k+1) - max i (64 * k))
def vW (p:Nat->Bool) (i:Nat):List Int:=[((vN p i 0:Nat):Int),((vN p i 1:Nat):Int),((vN p i 2:Nat):Int),((vN p i 3:Nat):Int)]
theorem yLy (p:Nat->Bool) (i k:Nat):vN p i k < 2 ^ 64:=by
 unfold vN
 exact Nat.lt_of_lt_of_le (zXc _ _) (Nat.pow_le_pow_right (by omega) (by omega))
theorem yGl (p:Nat->Bool) {i k:Nat} (h:i / 64=k):vN p i k=(p i).toNat+2 * vN p (i+1) k:=by
 unfold vN
 have h1:max i (64 * k)=i:=by omega
 have h2:max (i+1) (64 * k)=i+1:=by omega
 rw [h1,h2,show 64 * (k+1) - i=(64 * (k+1) - (i+1))+1 by omega]
 rw [bn]
 congr 2
 apply zCd
 intro j hj
 show p (i+(j+1))=p (i+1+j)
 congr 1; omega
theorem yDh (p:Nat->Bool) {i k:Nat} (h:i / 64 ≠ k):vN p (i+1) k=vN p i k:=by
 unfold vN
 by_cases h1:i < 64 * k
 ·have h1':max i (64 * k)=64 * k:=by omega
  have h2:max (i+1) (64 * k)=64 * k:=by omega
  rw [h1',h2]
 ·have h3:64 * (k+1) - max i (64 * k)=0:=by omega
  have h4:64 * (k+1) - max (i+1) (64 * k)=0:=by omega
  rw [h3,h4]; rfl
theorem yGm (p:Nat->Bool):vW p 0=wd p:=by
 unfold vW wd word Li vN
 simp [show ∀ k,max 0 (64 * k)=64 * k by omega]
theorem yJt (p:Nat->Bool) {i:Nat} (hi:i < 256):(vW p (i+1)).set (i / 64) ((vN p i (i / 64):Nat):Int)=vW p i:=by
 have hk:i / 64=0∨i / 64=1∨i / 64=2∨i / 64=3:=by omega
 have ho:∀ k,i / 64 ≠ k->vN p (i+1) k=vN p i k:=fun k h=>yDh p h
 rcases hk with h | h | h | h <;> rw [h] <;> simp only [vW,List.set_cons_zero,List.set_cons_succ]
 ·rw [ho 1 (by omega),ho 2 (by omega),ho 3 (by omega)]
 ·rw [ho 0 (by omega),ho 2 (by omega),ho 3 (by omega)]
 ·rw [ho 0 (by omega),ho 1 (by omega),ho 3 (by omega)]
 ·rw [ho 0 (by omega),ho 1 (by omega),ho 2 (by omega)]
theorem yJu (p:Nat->Bool) {i k:Nat} (hk:k < 4):(vW p i).getD k 0=((vN p i k:Nat):Int):=by
 have:k=0∨k=1∨k=2∨k=3:=by omega
 rcases this with rfl | rfl | rfl | rfl <;> rfl
theorem yJv (p:Nat->Bool) (i:Nat):(vW p i).length=4:=rfl
theorem zHt {n:Nat} (hn:300 <= n) (p:Nat->Bool):xR n (bx p)=some (wd p):=by
 unfold xR
 simp only
 have:=Bl (B:=rE n) (r:=some (wd p)) (N:=256) (fun i=>(255 - (i:Int),bx p,[0,0,0,0],vW p (256 - i),()))
  (by
   intro i hi g
   obtain ⟨j,hj⟩:∃ j,j=255 - i:=⟨_,rfl⟩
   have e1:(255:Int) - (i:Int)=(j:Int):=by omega
   have e2:256 - i=j+1:=by omega
   have e3:(255:Int) - ((i+1:Nat):Int)=(j:Int) - 1:=by omega
   have e4:256 - (i+1)=j:=by omega
   have hj2:j < 256:=by omega
   have hk:j / 64 < 4:=by omega
   have hv:IntKind.wrap .i64 (Int.tdiv (j:Int) 64)=((j / 64:Nat):Int):=by
    rw [IntWalk.i64_quo _ _ (by omega)]; rfl
   have hs:=yGl p (i:=j) rfl
   have hlt:=yLy p j (j / 64)
   rw [e1,e2,e3,e4,rE]
   simp only
   rw [aK (by simp),aD (by decide),aD (by decide),hv,aD (eU (by omega) (by omega)),aD (by simp; omega),aD (eU (by omega) (by omega)),aD (by simp; omega),aD (eU (by omega) (by omega)),aD (by simp; omega)]
   rw [Int.toNat_natCast,Int.toNat_natCast,zCf,yJu p hk,Jw _ hj2,bD (by omega) (by omega)]
   rw [<- yJt p hj2]
   cases hp:p j
   ·rw [aF rfl]
    rw [hp] at hs
    rw [IntWalk.u64_in _ (by simp at hs; omega)]
    have:((vN p (j+1) (j / 64):Nat):Int) * 2=((vN p j (j / 64):Nat):Int):=by simp at hs; omega
    rw [this]
   ·rw [aK rfl,aD (by decide),aD (eU (by omega) (by omega)),aD (by simp; omega),aD (eU (by omega) (by omega)),aD (by simp; omega)]
    rw [hp] at hs
    simp only [Bool.toNat_true] at hs
    rw [IntWalk.u64_in _ (by omega)]
    have hg:∀ y,((vW p (j+1)).set (j / 64) y).getD (j / 64) 0=y:=by
     intro y
     rw [List.getD_eq_getElem?_getD,List.getElem?_set_self (by rw [yJv]; exact hk)]; rfl
    rw [hg,IntWalk.u64_in _ (by omega),List.set_set]
    have:((vN p (j+1) (j / 64):Nat):Int) * 2+1=((vN p j (j / 64):Nat):Int):=by omega
    rw [this])
  (by
   intro g
   rw [rE]
   simp only
   rw [aF (by simp)]
   rw [show 256 - 256=0 from rfl,yGm])
  256 0 n (by omega) (by omega)
 exact this
theorem zFl {n:Nat} (hn:300 <= n) (p q:Nat->Bool):fix (nC n) n (0,List.replicate 256 false,bx p,bx q,())=some (bx (fun i=>q i && !p i),true):=by
 have:=Bl (B:=nC n) (r:=some (bx (fun i=>q i && !p i),true)) (N:=256) (fun i=>((i:Int),List.replicate 256 false,bx p,bx (fun j=>if j < i then q j && !p j else q j),()))
  (by
   intro i hi g
   have key:∀ b,b=(q i && !p i)->(g (((i+1:Nat):Int),List.replicate 256 false,bx p,bx (fun j=>if j=i then b else if j < i then q j && !p j else q j),())=g (((i+1:Nat):Int),List.replicate 256 false,bx p,bx (fun j=>if j < i+1 then q j && !p j else q j),())):=by
    intro b hb
    have:bx (fun j=>if j=i then b else if j < i then q j && !p j else q j)=bx (fun j=>if j < i+1 then q j && !p j else q j):=by
     refine kJ fun j hj=>?_
     by_cases e:j=i
     ·subst e; simp [hb]
     ·by_cases e2:j < i
      ·simp [e,e2,Nat.lt_succ_of_lt e2]
      ·simp [e,e2,show ¬ j < i+1 by omega]
    rw [this]
   rw [nC]
   simp only
   rw [aK (by simp; omega),aD (eU (by omega) (by omega)),aD (by simp; omega)]
   rw [bD (by omega) (by omega),Int.toNat_natCast,Jw _ hi,Jw _ hi,Jy,Jy,show (i:Int)+1=((i+1:Nat):Int) from rfl]
   simp only [Nat.lt_irrefl,if_false]
   cases hq:q i
   ·rw [aF rfl,aD (eU (by omega) (by omega)),aD (decide_eq_true hi)]; exact key false (by rw [hq]; rfl)
   ·rw [aK rfl,aD (eU (by omega) (by omega)),aD (decide_eq_true hi),aD (eU (by omega) (by omega)),aD (decide_eq_true hi)]; exact key (!p i) (by rw [hq]; rfl))
  (by
   intro g
   rw [nC]
   simp only
   rw [aF (by simp)]
   have e:bx (fun j=>if j < 256 then q j && !p j else q j)=bx (fun i=>q i && !p i):=kJ fun j hj=>by simp [hj]
   rw [e])
  256 0 n (by omega) (by omega)
 have e:bx (fun j=>if j < 0 then q j && !p j else q j)=bx q:=kJ fun j hj=>by simp
 rw [e] at this
 exact this
def zPs (ps:List (Nat->Bool)):Nat->Bool:=fun i=>ps.any (· i)
def Jz (s:List UInt8):Option (Nat->Bool) :=
 bif s == [117,112,112,101,114] then some (bU 65 90)
 else bif s == [108,111,119,101,114] then some (bU 97 122)
 else bif s == [97,108,112,104,97] then some (zPs [bU 65 90,bU 97 122])
 else bif s == [100,105,103,105,116] then some (bU 48 57)
 else bif s == [97,108,110,117,109] then some (zPs [bU 65 90,bU 97 122,bU 48 57])
 else bif s == [120,100,105,103,105,116] then some (zPs [bU 48 57,bU 65 70,bU 97 102])
 else bif s == [98,108,97,110,107] then some (ofP [32,9])
 else bif s == [115,112,97,99,101] then some (ofP [32,9,10,11,12,13])
 else bif s == [99,110,116,114,108] then some (zPs [bU 0 31,ofP [127]])
 else bif s == [103,114,97,112,104] then some (bU 33 126)
 else bif s == [112,114,105,110,116] then some (bU 32 126)
 else bif s == [112,117,110,99,116] then some (zPs [bU 33 47,bU 58 64,bU 91 96,bU 123 126])
 else none
def zTg (o:Option (Nat->Bool)) (a:Option (List Int × Bool)) (b:Option (List Bool × Bool)):Prop:=match o with
 | some p=>a=some (wd p,true)∧b=some (bx p,true)
 | none=>a=some (wd fun _=>false,false)∧∃ p,b=some (bx p,false)
theorem jO {p q:Nat->Bool} (h:((List.range 256).all fun i=>p i == q i)=true) (o:Option (List Int × Bool)) (o2:Option (List Bool × Bool)) (h1:o=some (wd p,true)) (h2:o2=some (bx q,true)) :
  zTg (some p) o o2:=by
 refine ⟨h1,?_⟩
 rw [h2]
 have:bx q=bx p:=kJ fun i hi=>by have:=Om h hi; simp at this; exact this.symm
 rw [this]
theorem zFm {n:Nat} (hn:300 <= n) (s:List UInt8):zTg (Jz s) (Ep n s) (xQ n s):=by
 have R:∀ a b:Nat,a < 256->b < 256->dO n ((a:Int),(b:Int))=some (wd (bU a b)):=fun a b ha hb=>Bo hn ha hb
 have R2:∀ a b:Nat,a < 256->b < 256->dH n ((a:Int),(b:Int))=some (bx (bU a b)):=fun a b ha hb=>wO hn ha hb
 have O:∀ ps:List (Nat->Bool),ps.length < 10->oD n (ps.map wd)=some (wd fun i=>ps.any (· i)):=fun ps h=>zJr ps (by omega) (by omega) (by omega)
 have O2:=fun p q=>Dz hn p q
 have F:∀ s:List UInt8,s.length < 10->tH n s=some (wd (ofP s)):=fun s h=>Vz s (by omega) (by omega)
 have F2:∀ s:List UInt8,s.length < 10->oF n s=some (bx (ofP s)):=fun s h=>Ea s (by omega) (by omega)
 unfold Ep xQ Jz
 simp only
 rw [show ((65:Int),(90:Int))=(((65:Nat):Int),((90:Nat):Int)) from rfl,show ((97:Int),(122:Int))=(((97:Nat):Int),((122:Nat):Int)) from rfl,show ((48:Int),(57:Int))=(((48:Nat):Int),((57:Nat):Int)) from rfl]
 rw [R 65 90 (by omega) (by omega),R 97 122 (by omega) (by omega),R 48 57 (by omega) (by omega),R2 65 90 (by omega) (by omega),R2 97 122 (by omega) (by omega),R2 48 57 (by omega) (by omega)]
 simp only [aQ]
 rw [O2]
 simp only [aQ]
 rw [O2]
 simp only [aQ]
 cases s == [117,112,112,101,114]
 case true=>exact jO (by decide +kernel) _ _ rfl rfl
 simp only [bC,cond_false]
 cases s == [108,111,119,101,114]
 case true=>exact jO (by decide +kernel) _ _ rfl rfl
 simp only [bC,cond_false]
 cases s == [97,108,112,104,97]
 case true =>
  have:=O [bU 65 90,bU 97 122] (by decide)
  simp only [List.map] at this
  simp only [bV,this,aQ]
  exact jO (by decide +kernel) _ _ rfl rfl
 simp only [bC,cond_false]
 cases s == [100,105,103,105,116]
 case true=>exact jO (by decide +kernel) _ _ rfl rfl
 simp only [bC,cond_false]
 cases s == [97,108,110,117,109]
 case true =>
  have:=O [bU 65 90,bU 97 122,bU 48 57] (by decide)
  simp only [List.map] at this
  simp only [bV,this,aQ]
  exact jO (by decide +kernel) _ _ rfl rfl
 simp only [bC,cond_false]
 cases s == [120,100,105,103,105,116]
 case true =>
  have:=O [bU 48 57,bU 65 70,bU 97 102] (by decide)
  simp only [List.map] at this
  simp only [bV]
  rw [show ((65:Int),(70:Int))=(((65:Nat):Int),((70:Nat):Int)) from rfl,show ((97:Int),(102:Int))=(((97:Nat):Int),((102:Nat):Int)) from rfl]
  rw [R 65 70 (by omega) (by omega),R 97 102 (by omega) (by omega),R2 65 70 (by omega) (by omega),R2 97 102 (by omega) (by omega)]
  simp only [aQ]
  rw [O2,this]
  simp only [aQ]
  rw [O2]
  exact jO (by decide +kernel) _ _ rfl rfl
 simp only [bC,cond_false]
 cases s == [98,108,97,110,107]
 case true =>
  simp only [bV]
  rw [F _ (by decide),F2 _ (by decide)]
  exact jO (by decide +kernel) _ _ rfl rfl
 simp only [bC,cond_false]
 cases s == [115,112,97,99,101]
 case true =>
  simp only [bV]
  rw [show ((9:Int),(13:Int))=(((9:Nat):Int),((13:Nat):Int)) from rfl]
  rw [F _ (by decide),F2 _ (by decide),R2 9 13 (by omega) (by omega)]
  simp only [aQ]
  rw [O2]
  exact jO (by decide +kernel) _ _ rfl rfl
 simp only [bC,cond_false]
 cases s == [99,110,116,114,108]
 case true =>
  simp only [bV]
  rw [show ((0:Int),(31:Int))=(((0:Nat):Int),((31:Nat):Int)) from rfl,show ((127:Int),(127:Int))=(((127:Nat):Int),((127:Nat):Int)) from rfl]
  rw [R 0 31 (by omega) (by omega),R2 0 31 (by omega) (by omega),R2 127 127 (by omega) (by omega),F _ (by decide)]
  have:=O [bU 0 31,ofP [127]] (by decide)
  simp only [List.map] at this
  simp only [aQ]
  rw [O2,this]
  exact jO (by decide +kernel) _ _ rfl rfl
 simp only [bC,cond_false]
 cases s == [103,114,97,112,104]
 case true =>
  simp only [bV]
  rw [show ((33:Int),(126:Int))=(((33:Nat):Int),((126:Nat):Int)) from rfl]
  rw [R 33 126 (by omega) (by omega),R2 33 126 (by omega) (by omega)]
  exact jO (by decide +kernel) _ _ rfl rfl
 simp only [bC,cond_false]
 cases s == [112,114,105,110,116]
 case true =>
  simp only [bV]
  rw [show ((32:Int),(126:Int))=(((32:Nat):Int),((126:Nat):Int)) from rfl]
  rw [R 32 126 (by omega) (by omega),R2 32 126 (by omega) (by omega)]
  exact jO (by decide +kernel) _ _ rfl rfl
 simp only [bC,cond_false]
 cases s == [112,117,110,99,116]
 case true =>
  simp only [bV]
  rw [show ((33:Int),(126:Int))=(((33:Nat):Int),((126:Nat):Int)) from rfl,show ((33:Int),(47:Int))=(((33:Nat):Int),((47:Nat):Int)) from rfl,show ((58:Int),(64:Int))=(((58:Nat):Int),((64:Nat):Int)) from rfl,show ((91:Int),(96:Int))=(((91:Nat):Int),((96:Nat):Int)) from rfl,show ((123:Int),(126:Int))=(((123:Nat):Int),((126:Nat):Int)) from rfl]
  rw [R 33 47 (by omega) (by omega),R 58 64 (by omega) (by omega),R 91 96 (by omega) (by omega),R 123 126 (by omega) (by omega),R2 33 126 (by omega) (by omega)]
  have:=O [bU 33 47,bU 58 64,bU 91 96,bU 123 126] (by decide)
  simp only [List.map] at this
  simp only [aQ]
  rw [this,zFl hn]
  exact jO (by decide +kernel) _ _ rfl rfl
 simp only [bC,cond_false]
 exact ⟨by rw [pV],fun _=>false,by rw [Df]⟩
end Go.Dec
