/- Part of a proof over this seat: a library of my own, and what it says of this seat. No statement is proved here. -/
import Derived.Test.YtmpoakdpdflfgaaGreatDoorPnrtBS
import Derived.Test.YtmpoakdpdflfgaaGreatDoorPnrtBN
namespace Go.Dec
def Ue:List Line->Prop
 | []=>True
 | e :: r=>(r=[]∨e.2.1=true)∧Ue r
theorem vQ:∀ (r w:List UInt8),Ue (fM w r)
 | [],w=>by cases w <;> simp [fM,Ue]
 | c :: r,w=>by
  unfold fM
  split
  ·exact ⟨.inr rfl,vQ r []⟩
  ·exact vQ r _
def nN:List UInt8->List Line->List UInt8
 | _,[]=>[]
 | g,e :: r=>g++e.1++(if e.2.1 then [10]++nN [] r else nN [10] r)
def lZ:List Line->Nat
 | []=>0
 | e :: r=>e.1.length+1+lZ r
theorem Qc:∀ (a b:List Line),lZ (a++b)=lZ a+lZ b
 | [],b=>by simp [lZ]
 | e :: a,b=>by simp only [List.cons_append,lZ,Qc a b]; omega
theorem Xy:∀ (l:List Line),lZ l <= (joinL l).length+l.length
 | []=>by simp [lZ]
 | e :: r=>by
  have:=Xy r
  simp only [lZ,joinL,List.flatMap_cons,List.length_append,Qv,List.length_cons] at *
  omega
theorem Nn:∀ (l:List Line),Ue l->nN [] l=joinL l
 | [],_=>rfl
 | e :: r,⟨h1,h2⟩=>by
  have ih:=Nn r h2
  simp only [nN,joinL,List.flatMap_cons,Qv,List.nil_append] at *
  cases he:e.2.1 with
  | true=>simp [ih]
  | false =>
   rcases h1 with h1 | h1
   ·subst h1; simp [nN]
   ·rw [he] at h1; cases h1
theorem zTe {n:Nat} {s:List UInt8} {a:List UInt8} (h:a.length+s.length <= 1000000):bW n (s,aO a,())=some ((s.length:Int),false,aO (a++s),()):=by
 unfold bW pJ
 simp only [kQ]
 rw [eB (by simp only [zDc]; simp [room]; omega),Sq]
theorem zRv {n:Nat} {l:List Line} (hl:l.length <= 1000) (hs:lZ l <= 10000):∀ (r pre:List Line) (g a:List UInt8) (m:Nat),l=pre++r->r.length < m->a.length+g.length <= lZ pre ->
  fix (jS n) m (g,l,(l.length:Int),(pre.length:Int),aO a,())=some (a++nN g r):=by
 intro r
 induction r with
 | nil =>
  intro pre g a m hp hm ha
  have hp:pre=l:=by simpa using hp.symm
  subst hp
  rw [fK (by omega),jS]
  simp only
  rw [dG (by simp),zFz]
  simp [nN]
 | cons e r ih =>
  intro pre g a m hp hm ha
  have hm':r.length+1 < m:=hm
  have hlen:l.length=pre.length+r.length+1:=by rw [hp]; simp; omega
  have hsum:lZ l=lZ pre+(e.1.length+1+lZ r):=by rw [hp,Qc]; rfl
  have hsp:lZ (pre++[e])=lZ pre+(e.1.length+1):=by rw [Qc]; simp [lZ]
  have hi:∀ (g' a':List UInt8),a'.length+g'.length <= lZ (pre++[e])->fix (jS n) (m - 1) (g',l,(l.length:Int),(pre.length:Int)+1,aO a',())=some (a'++nN g' r):=fun g' a' h1=>by
   have:=ih (pre++[e]) g' a' (m - 1) (by rw [hp]; simp) (by omega) h1
   rwa [show ((pre++[e]).length:Int)=(pre.length:Int)+1 by simp] at this
  rw [fK (by omega),jS]
  simp only
  rw [gI (decide_eq_true (by omega)),eB (xS (by omega)),nG hp,eB (decide_eq_true (by simp [uO]; omega)),zTe (by simp; omega)]
  simp only [kQ]
  cases he:e.2.1 with
  | true =>
   simp only [zJt]
   rw [zTe (by simp; omega)]
   simp only [kQ]
   rw [uD (by omega) (by omega),hi _ _ (by simp; omega)]
   simp [nN,he]
  | false =>
   simp only [zWx]
   rw [uD (by omega) (by omega),hi _ _ (by simp; omega)]
   simp [nN,he]
theorem zGg {n:Nat} (hn:1500 <= n) {t:List UInt8} (h:t.length <= 400):kK n (bB t)=some t:=by
 have h2:=qW t []
 have h3:=Xy (bB t)
 rw [xV] at h3
 unfold kK
 have:=zRv (n:=n) (l:=bB t) (by simp only [bB]; omega) (by simp only [bB] at h3 ⊢; omega) (bB t) [] [] [] n rfl (by simp only [bB]; omega) (by simp [lZ])
 have he:nN [] (bB t)=t:=by rw [Nn (bB t) (vQ t []),xV]
 rw [he] at this
 exact this
theorem zEr {n:Nat} (hn:2 <= n) {s:List UInt8} (hs:s.length <= 1000):∀ (r pre:List UInt8) (m:Nat),s=pre++r->(∀ c ∈ r,c=32∨c=9)->r.length < m ->
  fix (iH n) m (s,[],false,(pre.length:Int),[],[],[],())=some ([],0,0)
 | [],pre,m,hp,_,hm=>by
  have hp:pre=s:=by simpa using hp.symm
  subst hp
  rw [fK (by omega),iH]
  simp only
  rw [dG (by simp),Xt (by simp),kQ]
  simp only
  rw [dG (by simp),dG (by simp),zLm]
  exact zVe (by simp) (by simp; omega) (by simp) (by simp)
 | c :: r,pre,m,hp,hc,hm=>by
  have hlen:s.length=pre.length+r.length+1:=by rw [hp]; simp; omega
  have hm:r.length+1 < m:=by simpa using hm
  have ih:=zEr hn hs r (pre++[c]) (m - 1) (by rw [hp]; simp) (fun x hx=>hc x (by simp [hx])) (by omega)
  rw [show ((pre++[c]).length:Int)=(pre.length:Int)+1 by simp] at ih
  rw [fK (by omega),iH]
  simp only
  rw [gI (decide_eq_true (by omega)),eB (xS (by omega)),nG hp]
  have blank:kI n (fix (iH n) (m - 1)) (s,(c.toNat:Int),true,[],false,(pre.length:Int),[],[],[],())=some ([],0,0):=by
   rw [kI]
   simp only
   rw [zJt,Xt (by simp),kQ]
   simp only
   rw [uD (by omega) (by omega)]
   exact ih
  rcases hc c (by simp) with rfl | rfl
  ·rw [gI (by rfl),zLm,blank]
  ·rw [dG (by rfl),zLm]
   exact blank
theorem zGh {n:Nat} (hn:1500 <= n) {s:List UInt8} (hs:s.length <= 1000) (hc:∀ c ∈ s,c=32∨c=9):rE n s=some ([],0,0) :=
 zEr (by omega) hs s [] n rfl hc (by omega)
theorem Kw {n:Nat} (hn:1500 <= n) {s:List UInt8} (hs:s.length <= 1000) (hc:∀ c ∈ s,c=32∨c=9) (t:List (List UInt8 × List UInt8 × Unit)):kS n (s,t)=some ([],0,0):=by
 unfold kS
 simp only
 rw [zGh hn hs hc,kQ,dG (by rfl),fK (by omega),vS]
 simp only
 rw [dG (by rfl)]
abbrev zAf (o:List Line) (t:List (List UInt8 × List UInt8 × Unit)):bQ [mJ]:=([],([],(false,([],([],([],([],(o,(t,([],(0,(0,(0,())))))))))))))
theorem zOn {n:Nat} {L:List Line} (hl:L.length <= 1000) (t:List (List UInt8 × List UInt8 × Unit)):∀ (r pre:List Line) (m:Nat),L=pre++r->r.length < m ->
  fix (lF n) m (L,(L.length:Int),(pre.length:Int),[],[],false,[],[],[],[],[],0,0,0,[],[],false,[],[],[],t,[],0,0,0,[],[],[],pre,())=some (zAf L t,0)
 | [],pre,m,hp,hm=>by
  have hp:pre=L:=by simpa using hp.symm
  subst hp
  rw [fK (by omega),lF]
  simp only
  rw [dG (by simp)]
 | e :: r,pre,m,hp,hm=>by
  have hlen:L.length=pre.length+r.length+1:=by rw [hp]; simp; omega
  have hm:r.length+1 < m:=by simpa using hm
  have ih:=zOn (n:=n) hl t r (pre++[e]) (m - 1) (by rw [hp]; simp) (by omega)
  rw [show ((pre++[e]).length:Int)=(pre.length:Int)+1 by simp] at ih
  rw [fK (by omega),lF]
  simp only
  rw [gI (decide_eq_true (by omega)),eB (xS (by omega)),nG hp,eB (by simp [room]; omega),uD (by omega) (by omega)]
  exact ih
theorem zZs {n:Nat} (hn:1500 <= n) {s:List UInt8} (hs:s.length <= 400) (t:List (List UInt8 × List UInt8 × Unit)):yP n ([],s,t,false)=some (zAf (bB s) t,0):=by
 have h2:=qW s []
 obtain ⟨m,rfl⟩:∃ m,n=m+3:=⟨n - 3,by omega⟩
 have h:yP (m+3) ([],s,t,false)=ob (jE (m+3) s) fun y=>fix (lF (m+3)) (m+3) (y,(y.length:Int),0,[],[],false,[],[],[],[],[],0,0,0,[],[],false,[],[],[],t,[],0,0,0,[],[],[],[],()):=rfl
 have hs:jE (m+3) s=some (bB s):=by unfold jE; rw [eB (decide_eq_true (by omega))]
 rw [h,hs,kQ]
 exact zOn (n:=m+3) (by simp only [bB]; omega) t (bB s) [] (m+3) rfl (by simp only [bB]; omega)
theorem zVn {n:Nat} (hn:1500 <= n) (o:List Line) (t:List (List UInt8 × List UInt8 × Unit)):Gh n (zAf o t,0)=some (zAf o t,0):=by
 obtain ⟨m,rfl⟩:∃ m,n=m+3:=⟨n - 3,by omega⟩
 rfl
theorem zRw {n:Nat} (hn:1500 <= n) (s:List UInt8) (t:List (List UInt8 × List UInt8 × Unit)):Gj n ([],s,t,0)=some ((s,(t,([],(0,(0,()))))),0):=by
 obtain ⟨m,rfl⟩:∃ m,n=m+3:=⟨n - 3,by omega⟩
 rfl
theorem zGi {n:Nat} (hn:1500 <= n) {l s:List UInt8} (hl:l.length <= 1000) (hc:∀ c ∈ l,c=32∨c=9) (hs:s.length <= 400) (t:List (List UInt8 × List UInt8 × Unit)) :
  vD n (l,s,t,false,0)=some ((s,(t,([],(0,(0,()))))),0,0):=by
 unfold vD fT
 simp only
 rw [Kw hn hl hc,kQ,dG (by rfl)]
 unfold uL
 simp only
 rw [zZs hn hs,kQ,dG (by rfl),zVn hn,kQ,zGg hn hs,kQ,kQ,dG (by rfl)]
 rfl
theorem zEs {n:Nat} (hn:1500 <= n) {l s:List UInt8} (hl:l.length <= 1000) (hc:∀ c ∈ l,c=32∨c=9) (t:List (List UInt8 × List UInt8 × Unit)) :
  rQ n (l,s,t,0)=some ((s,(t,([],(0,(0,()))))),0,0):=by
 unfold rQ fE
 simp only
 rw [Kw hn hl hc,kQ,dG (by rfl)]
 unfold rP
 simp only
 rw [zRw hn,kQ,kQ,dG (by rfl)]
 rfl
theorem zEt {n:Nat} {t:List (List UInt8 × List UInt8 × Unit)} (hl:t.length <= 100):∀ (r pre:List (List UInt8 × List UInt8 × Unit)) (m:Nat),t=pre++r->r.length < m ->
  fix (kW n) m (t,(pre.length:Int),pre,())=some t
 | [],pre,m,hp,hm=>by
  have hp:pre=t:=by simpa using hp.symm
  subst hp
  rw [fK (by omega),kW]
  simp only
  rw [dG (by simp)]
 | e :: r,pre,m,hp,hm=>by
  have hlen:t.length=pre.length+r.length+1:=by rw [hp]; simp; omega
  have hm:r.length+1 < m:=by simpa using hm
  have ih:=zEt (n:=n) hl r (pre++[e]) (m - 1) (by rw [hp]; simp) (by omega)
  rw [show ((pre++[e]).length:Int)=(pre.length:Int)+1 by simp] at ih
  rw [fK (by omega),kW]
  simp only
  rw [gI (decide_eq_true (by omega)),eB (xS (by omega)),nG hp,eB (by simp [room]; omega),uD (by omega) (by omega)]
  exact ih
theorem zRx {n:Nat} (hn:1500 <= n) {t:List (List UInt8 × List UInt8 × Unit)} (hl:t.length <= 100):oU n t=some t :=
 zEt (n:=n) hl t [] n rfl (by omega)
theorem zRy (e:List UInt8 × List UInt8 × Unit):Ty.beq aU e e=true:=by
 show (e.1 == e.1 && (e.2.1 == e.2.1 && true))=true
 simp
theorem zHz {n:Nat} {t:List (List UInt8 × List UInt8 × Unit)} (hl:t.length <= 100):∀ (r pre:List (List UInt8 × List UInt8 × Unit)) (m:Nat),t=pre++r->r.length < m ->
  fix (lY n) m (t,t,(pre.length:Int),())=some true
 | [],pre,m,hp,hm=>by
  have hp:pre=t:=by simpa using hp.symm
  subst hp
  rw [fK (by omega),lY]
  simp only
  rw [dG (by simp)]
 | e :: r,pre,m,hp,hm=>by
  have hlen:t.length=pre.length+r.length+1:=by rw [hp]; simp; omega
  have hm:r.length+1 < m:=by simpa using hm
  have ih:=zHz (n:=n) hl r (pre++[e]) (m - 1) (by rw [hp]; simp) (by omega)
  rw [show ((pre++[e]).length:Int)=(pre.length:Int)+1 by simp] at ih
  rw [fK (by omega),lY]
  simp only
  rw [gI (decide_eq_true (by omega)),eB (xS (by omega)),nG hp,eB (xS (by omega)),dG (by rw [zRy]; rfl),uD (by omega) (by omega)]
  exact ih
theorem same_eq {n:Nat} (hn:1500 <= n) {t:List (List UInt8 × List UInt8 × Unit)} (hl:t.length <= 100):rR n (t,t)=some true:=by
 unfold rR
 simp only
 rw [dG (by simp)]
 exact zHz (n:=n) hl t [] n rfl (by omega)
end Go.Dec
namespace Go.Dec
theorem zIa {n:Nat} (hn:1500 <= n) {s:List UInt8} (hs:s.length <= 400) {bl:List Bool} (hb:bl.length <= 40) {t:List (List UInt8 × List UInt8 × Unit)} (ht:t.length <= 20) :
  ∀ (r pre:List Bool) (line:List UInt8) (m:Nat),bl=pre++r->line.length=pre.length->(∀ c ∈ line,c=32∨c=9)->r.length < m ->
  fix (fO n) m (s,bl,t,line,(pre.length:Int),())=some true
 | [],pre,line,m,hp,hl,hc,hm=>by
  have hp:pre=bl:=by simpa using hp.symm
  subst hp
  rw [fK (by omega),fO]
  simp only
  rw [dG (by simp),zGi hn (by omega) hc hs,kQ,zEs hn (by omega) hc,kQ,gI (by rfl),gI (by rfl),gI (by rfl),gI (by rfl),gI (by simp),gI (by simp),gI (by rfl),gI (by rfl)]
  simp only
  rw [zRx hn (by omega),kQ,kQ,same_eq hn (by omega),kQ]
 | b :: r,pre,line,m,hp,hl,hc,hm=>by
  have hlen:bl.length=pre.length+r.length+1:=by rw [hp]; simp; omega
  have hm:r.length+1 < m:=by simpa using hm
  have ih:∀ x:UInt8,x=32∨x=9->fix (fO n) (m - 1) (s,bl,t,line++[x],(pre.length:Int)+1,())=some true:=fun x hx=>by
   have:=zIa hn hs hb ht r (pre++[b]) (line++[x]) (m - 1) (by rw [hp]; simp) (by simp [hl]) (fun c h=>by
    rcases List.mem_append.1 h with h | h
    ·exact hc c h
    ·rw [List.mem_singleton.1 h]; exact hx) (by omega)
   rwa [show ((pre++[b]).length:Int)=(pre.length:Int)+1 by simp] at this
  rw [fK (by omega),fO]
  simp only
  rw [gI (decide_eq_true (by omega)),eB (xS (by omega)),nG hp]
  cases b with
  | true=>rw [zJt,eB (decide_eq_true (by simp [uO]; omega)),uD (by omega) (by omega),ih 32 (.inl rfl)]
  | false=>rw [zWx,eB (decide_eq_true (by simp [uO]; omega)),uD (by omega) (by omega),ih 9 (.inr rfl)]
theorem zEu {s:List UInt8} (hs:s.length <= 400) {bl:List Bool} (hb:bl.length <= 40) {t:List (List UInt8 × List UInt8 × Unit)} (ht:t.length <= 20) :
  ∀ (r pre:List (List UInt8 × List UInt8 × Unit)) (m:Nat),t=pre++r->r.length < m->fix (iM 2000) m (s,bl,t,(pre.length:Int),())=some true
 | [],pre,m,hp,hm=>by
  have hp:pre=t:=by simpa using hp.symm
  subst hp
  rw [fK (by omega),iM]
  simp only
  rw [dG (by simp)]
  exact zIa (by omega) hs hb ht bl [] [] 2000 rfl rfl (by simp) (by omega)
 | e :: r,pre,m,hp,hm=>by
  have hlen:t.length=pre.length+r.length+1:=by rw [hp]; simp; omega
  have hm:r.length+1 < m:=by simpa using hm
  have ih:=zEu hs hb ht r (pre++[e]) (m - 1) (by rw [hp]; simp) (by omega)
  rw [show ((pre++[e]).length:Int)=(pre.length:Int)+1 by simp] at ih
  rw [fK (by omega),iM]
  simp only
  rw [gI (decide_eq_true (by omega)),eB (xS (by omega)),nG hp]
  by_cases h1:decide ((e.1.length:Int) > 100)=true
  ·rw [gI h1]; rfl
  ·rw [dG (by simpa using h1),eB (xS (by omega))]
   by_cases h2:decide ((e.2.1.length:Int) > 300)=true
   ·rw [gI h2]; rfl
   ·rw [dG (by simpa using h2),uD (by omega) (by omega)]
    exact ih
theorem Bh (x:List UInt8 × List Bool × List (List UInt8 × List UInt8 × Unit)):rT 2000 x=some true:=by
 obtain ⟨s,bl,t⟩:=x
 unfold rT
 simp only
 by_cases h1:decide ((s.length:Int) > 300)=true
 ·rw [gI h1]; rfl
 ·rw [dG (by simpa using h1)]
  have h1:¬ (s.length:Int) > 300:=by simpa using h1
  by_cases h2:decide ((bl.length:Int) > 40)=true
  ·rw [gI h2]; rfl
  ·rw [dG (by simpa using h2)]
   have h2:¬ (bl.length:Int) > 40:=by simpa using h2
   by_cases h3:decide ((t.length:Int) > 20)=true
   ·rw [gI h3]; rfl
   ·rw [dG (by simpa using h3)]
    have h3:¬ (t.length:Int) > 20:=by simpa using h3
    rw [show shown22 2000 ()=some true from rfl,kQ,dG (b:=!true) rfl]
    exact zEu (by omega) (by omega) (by omega) t [] 2000 rfl (by omega)
end Go.Dec
