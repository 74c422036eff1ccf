/- Part of a proof over this seat: a library of my own, and what it says of this seat. No statement is proved here. -/
import Derived.Test.YtfpipcafiocdoaaGreatDoorPfrtBR
import Derived.Test.YtfpipcafiocdoaaGreatDoorPfrtBA
import Derived.KernelRfl
namespace Go.Dec
def Um:List Line->Prop
 | []=>True
 | e :: r=>(r=[]∨e.2.1=true)∧Um r
theorem wD:∀ (r w:List UInt8),Um (fT w r)
 | [],w=>by cases w <;> simp [fT,Um]
 | c :: r,w=>by
  unfold fT
  split
  ·exact ⟨.inr rfl,wD r []⟩
  ·exact wD r _
def nX:List UInt8->List Line->List UInt8
 | _,[]=>[]
 | g,e :: r=>g++e.1++(if e.2.1 then [10]++nX [] r else nX [10] r)
def mF:List Line->Nat
 | []=>0
 | e :: r=>e.1.length+1+mF r
theorem Qi:∀ (a b:List Line),mF (a++b)=mF a+mF b
 | [],b=>by simp [mF]
 | e :: a,b=>by simp only [List.cons_append,mF,Qi a b]; omega
theorem Yc:∀ (l:List Line),mF l <= (joinL l).length+l.length
 | []=>by simp [mF]
 | e :: r=>by
  have:=Yc r
  simp only [mF,joinL,List.flatMap_cons,List.length_append,Ri,List.length_cons] at *
  omega
theorem Ns:∀ (l:List Line),Um l->nX [] l=joinL l
 | [],_=>rfl
 | e :: r,⟨h1,h2⟩=>by
  have ih:=Ns r h2
  simp only [nX,joinL,List.flatMap_cons,Ri,List.nil_append] at *
  cases he:e.2.1 with
  | true=>simp [ih]
  | false =>
   rcases h1 with h1 | h1
   ·subst h1; simp [nX]
   ·rw [he] at h1; cases h1
theorem zUf {n:Nat} {s:List UInt8} {a:List UInt8} (h:a.length+s.length <= 1000000):bW n (s,aR a,())=some ((s.length:Int),false,aR (a++s),()):=by
 unfold bW qF
 simp only [Iz]
 rw [nP (by simp only [zCq]; simp [room]; omega),Tf]
theorem zSn {n:Nat} {l:List Line} (hl:l.length <= 1000) (hs:mF l <= 10000):∀ (r pre:List Line) (g a:List UInt8) (m:Nat),l=pre++r->r.length < m->a.length+g.length <= mF pre ->
  fix (jP n) m (g,l,(l.length:Int),(pre.length:Int),aR a,())=some (a++nX g r):=by
 intro r
 induction r with
 | nil =>
  intro pre g a m hp hm ha
  have hp:pre=l:=by simpa using hp.symm
  subst hp
  rw [xS (by omega),jP]
  simp only
  rw [nQ (by simp),zFt]
  simp [nX]
 | cons e r ih =>
  intro pre g a m hp hm ha
  have hm':r.length+1 < m:=hm
  have hlen:l.length=pre.length+r.length+1:=by rw [hp]; simp; omega
  have hsum:mF l=mF pre+(e.1.length+1+mF r):=by rw [hp,Qi]; rfl
  have hsp:mF (pre++[e])=mF pre+(e.1.length+1):=by rw [Qi]; simp [mF]
  have hi:∀ (g' a':List UInt8),a'.length+g'.length <= mF (pre++[e])->fix (jP n) (m - 1) (g',l,(l.length:Int),(pre.length:Int)+1,aR a',())=some (a'++nX g' r):=fun g' a' h1=>by
   have:=ih (pre++[e]) g' a' (m - 1) (by rw [hp]; simp) (by omega) h1
   rwa [show ((pre++[e]).length:Int)=(pre.length:Int)+1 by simp] at this
  rw [xS (by omega),jP]
  simp only
  rw [Mi (decide_eq_true (by omega)),nP (zYy (by omega)),Xv hp,nP (decide_eq_true (by simp [Qn]; omega)),zUf (by simp; omega)]
  simp only [Iz]
  cases he:e.2.1 with
  | true =>
   simp only [yGp]
   rw [zUf (by simp; omega)]
   simp only [Iz]
   rw [Lr (by omega) (by omega),hi _ _ (by simp; omega)]
   simp [nX,he]
  | false =>
   simp only [yGq]
   rw [Lr (by omega) (by omega),hi _ _ (by simp; omega)]
   simp [nX,he]
theorem zFz {n:Nat} (hn:1500 <= n) {t:List UInt8} (h:t.length <= 400):mE n (bD t)=some t:=by
 have h2:=rW t []
 have h3:=Yc (bD t)
 rw [yM] at h3
 unfold mE
 have:=zSn (n:=n) (l:=bD t) (by simp only [bD]; omega) (by simp only [bD] at h3 ⊢; omega) (bD t) [] [] [] n rfl (by simp only [bD]; omega) (by simp [mF])
 have he:nX [] (bD t)=t:=by rw [Ns (bD t) (wD t []),yM]
 rw [he] at this
 exact this
abbrev Zi (cuts:Bool) (o:List Line):bI [jF]:=([],([],(cuts,([],([],([],([],(o,([],([],(0,(0,(0,())))))))))))))
theorem zPb {n:Nat} {L:List Line} (hl:L.length <= 1000) (cuts:Bool):∀ (r pre:List Line) (m:Nat),L=pre++r->r.length < m ->
  fix (kW n) m (L,(L.length:Int),(pre.length:Int),[],[],false,[],[],[],[],[],0,0,0,[],[],cuts,[],[],[],[],0,0,0,[],[],[],[],pre,())=some (Zi cuts L,0)
 | [],pre,m,hp,hm=>by
  have hp:pre=L:=by simpa using hp.symm
  subst hp
  rw [xS (by omega),kW]
  simp only
  rw [nQ (by simp)]
 | e :: r,pre,m,hp,hm=>by
  have hlen:L.length=pre.length+r.length+1:=by rw [hp]; simp; omega
  have hm:r.length+1 < m:=by simpa using hm
  have ih:=zPb (n:=n) hl cuts r (pre++[e]) (m - 1) (by rw [hp]; simp) (by omega)
  rw [show ((pre++[e]).length:Int)=(pre.length:Int)+1 by simp] at ih
  rw [xS (by omega),kW]
  simp only
  rw [Mi (decide_eq_true (by omega)),nP (zYy (by omega)),Xv hp,nP (by simp [room]; omega),Lr (by omega) (by omega)]
  exact ih
theorem yDr {s:List UInt8} (hs:s.length <= 400) (cuts:Bool):yV 2000 ([],s,[],cuts)=some (Zi cuts (bD s),0):=by
 have h2:=rW s []
 have h:∀ m,yV (m+3) ([],s,[],cuts)=ob (mO (m+3) s) fun y=>fix (kW (m+3)) (m+3) (y,(y.length:Int),0,[],[],false,[],[],[],[],[],0,0,0,[],[],cuts,[],[],[],[],0,0,0,[],[],[],[],[],()):=fun m=>rfl
 have hs:mO 2000 s=some (bD s):=by unfold mO; rw [nP (decide_eq_true (by omega))]
 have h':=h 1997
 rw [show (1997:Nat)+3=2000 from rfl] at h'
 rw [h',hs,Iz]
 exact zPb (n:=2000) (by simp only [bD]; omega) cuts (bD s) [] 2000 rfl (by simp only [bD]; omega)
theorem zXp (o:List Line) (cuts:Bool):Gl 2000 (Zi cuts o,8)=some (Zi cuts o,0):=by kernel_rfl
abbrev iW (k:Nat):List aS:=List.replicate k Gb
theorem zHu {inp:List UInt8} {n:Int} {cuts:Bool} {k:Nat} (hk:k < 20) (hn:Int.tmod (IntKind.wrap .i64 n) 20=k):∀ (j i m:Nat),i+j=k->j < m ->
  fix (aH 2000) m (inp,n,cuts,(i:Int),iW i,())=fix (aH 2000) (m - j) (inp,n,cuts,(k:Int),iW k,())
 | 0,i,m,hi,hm=>by
  obtain rfl:i=k:=by omega
  rfl
 | j+1,i,m,hi,hm=>by
  rw [xS (by omega),aH]
  simp only
  rw [nP (by decide),hn,Mi (decide_eq_true (by omega)),nP (by simp [room]; omega),Lr (by omega) (by omega)]
  have:=zHu (inp:=inp) (cuts:=cuts) hk hn j (i+1) (m - 1) (by omega) (by omega)
  rw [show m - 1 - j=m - (j+1) by omega,show ((i+1:Nat):Int)=(i:Int)+1 by omega] at this
  rw [<- this,show iW (i+1)=iW i++[Gb] from List.replicate_succ']
  rfl
end Go.Dec
