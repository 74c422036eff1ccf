/- Part of a proof over this seat: a library of my own, and what it says of this seat. No statement is proved here. -/
import Derived.Test.YtdgneppobefaoaaGreatDoorPartBT
import Derived.Test.YtdgneppobefaoaaGreatDoorPartBU
namespace Go.Dec
abbrev R1:List (Bool × Int × Unit):=[(false,(0,()))]
abbrev Tw:cZ:=((noA,noA,false,()),112,[],[],0,0,-1,[],false,false,())
abbrev wV:zEp:=(false,[],[Tw],())
abbrev btP (pc n:Int) (P:List UInt8) (e l:Bool):BtD:=(pc,(n,(0,((-1),(P,([],(e,(l,(false,(R1,([],())))))))))))
theorem yGn (n:Nat) (N:Int) (last:Bool):uT n (((0,(0,(0,()))),((0,(0,(0,()))),(false,()))),(false,(0,())),(N,(last,([],()))))=some (true,(false,0,())):=by
 unfold uT yBy
 rw [if_pos ⟨rfl,rfl,rfl⟩]
theorem yGo (n:Int) (P:List UInt8) (e l:Bool) :
  mE 2000 (0,0,0,0,0,0,false,112,[],[],0,0,(-1),[],false,false,1,0,n,0,(-1),P,[],e,l,false,R1,[],false,[],[Tw],false,[],[],()) =
   some (true,1,0,n,0,(-1),P,[],e,l,false,[],false,[],[Tw],false,[],[],R1,()):=by
 have h:∀ m,mE (m+3) (0,0,0,0,0,0,false,112,[],[],0,0,(-1),[],false,false,1,0,n,0,(-1),P,[],e,l,false,R1,[],false,[],[Tw],false,[],[],()) =
   ob (uT (m+3) (((0,(0,(0,()))),((0,(0,(0,()))),(false,()))),(false,(0,())),(n,(l,([],()))))) fun y=>some (y.1,1,0,n,0,(-1),P,[],e,l,false,[],false,[],[Tw],false,[],[],R1.set 0 y.2,()):=fun _=>rfl
 rw [show (2000:Nat)=1997+3 from rfl,h,yGn]
 rfl
theorem yJz (n:Int) (P:List UInt8) (e l:Bool):nN 2000 (wV,(false,((1,btP 0 n P e l),[])))=some ((1,btP 1 n P e l),[],[(P,(e,()))]):=by
 unfold nN
 simp only
 rw [fO (by rfl),fO (by rfl),bK (by rfl),show bV (Ty.dflt aC) [Tw] 0=Tw from rfl]
 simp only [Tw,noA]
 rw [yGo,eH]
 rfl
theorem yKa (n:Int) (P:List UInt8) (e l:Bool):nN 2000 (wV,(false,((1,btP 1 n P e l),[])))=some ((0,btP 1 n P e l),[],[(P,(e,()))]):=by
 kernel_rfl
def twice:List iJ->List iJ
 | []=>[]
 | x :: r=>x :: x :: twice r
theorem zHb:∀ l:List iJ,(twice l).length=2 * l.length
 | []=>rfl
 | x :: r=>by simp only [twice,List.length_cons,zHb r]; omega
abbrev stP:aY:=iK wV false
theorem yKb {c:UInt8} {r:List UInt8} (h:(c :: r).length <= 400):strings_Cut 2000 (c :: r,[10])=some ((dF (c :: r)).1,(dF (c :: r)).2.1,(dF (c :: r)).2.2):=by
 unfold strings_Cut
 rw [bK (decide_eq_true (by simp only; omega)),zKg]
theorem go:∀ (s:Nat) (d:List UInt8) (out:List iJ) (pc n:Int) (P:List UInt8) (e l:Bool) (k:Nat) (st wk:Int),d.length <= s->d.length <= 400->out.length+2 * d.length <= 900->k+3 * d.length+3 <= 1900 ->
  ∃ bt st' wk',fix (gN 2000) (2000 - k) (zNt (k:Int) (lQ stP true (0,btP pc n P e l) d out st wk 0))=some (lQ stP true (4,bt) [] (out++twice (bT d)) st' wk' 0,0)
 | s,[],out,pc,n,P,e,l,k,st,wk,_,_,_,hk=>by
  refine ⟨btP pc n P e l,w1 st,wk,?_⟩
  simp only [List.length_nil] at hk
  rw [Fa (by omega) (by omega) (by omega) (zQz wV false (btP pc n P e l) out st wk 0) (step_end wV false (btP pc n P e l) out st wk 0)]
  rw [yCq (by omega) (yJy wV false (btP pc n P e l) [] out (w1 st) wk 0)]
  simp [zAi,twice]
 | 0,c :: r,_,_,_,_,_,_,_,_,_,h,_,_,_=>by simp at h
 | s+1,c :: r,out,pc,n,P,e,l,k,st,wk,hs,hd,ho,hk=>by
  have hne:c :: r ≠ []:=by simp
  have hsh:=Ib hne
  have hc:=yKb hd
  have hsp:=Mi hne
  generalize hu:dF (c :: r)=u at hc hsp hsh
  obtain ⟨t,v,b⟩:=u
  simp only at hc hsp hsh
  have hlen:(c :: r).length=r.length+1:=rfl
  have e1:(btP pc n P e l).2.1=n:=rfl
  obtain ⟨bt,st',wk',ih⟩:=go s v ((out++[(t,(b,()))])++[(t,(b,()))]) 1 (w1 n) t b (v == []) (k+3) (w1 (w1 (w1 st))) (w1 (w1 wk)) (by omega) (by omega) (by simp; omega) (by omega)
  refine ⟨bt,st',wk',?_⟩
  rw [Fa (by omega) (by omega) (by omega) (zYw wV false (btP pc n P e l) out st wk 0 hc) (step_take wV false (btP pc n P e l) out st wk 0 hc)]
  rw [show took (btP pc n P e l) t b (v == [])=(1,btP 0 (w1 n) t b (v == [])) from rfl]
  rw [Fa (by omega) (by omega) (by omega) (zNq wV false (btP 0 (w1 n) t b (v == [])) v out _ _ 0) (zNs wV false _ v out _ _ 0 (yJz (w1 n) t b (v == [])) (by simp; omega) (by rfl))]
  rw [Fa (by omega) (by omega) (by omega) (zNq wV false (btP 1 (w1 n) t b (v == [])) v _ _ _ 0) (zNs wV false _ v _ _ _ 0 (yKa (w1 n) t b (v == [])) (by simp; omega) (by rfl))]
  rw [show 2000 - k - 1 - 1 - 1=2000 - (k+3) by omega,show (k:Int)+1+1+1=((k+3:Nat):Int) by omega,ih,hsp]
  simp [twice]
theorem yLp (inp:List UInt8):Ef 2000 ([stP],inp,[],false)=some (lQ stP false (0,btP 0 0 [] false false) inp [] 0 0 0,0):=by kernel_rfl
theorem yGp {inp:List UInt8} (h:inp.length <= 300):∃ bt st wk,Eo 2000 (lQ stP false (0,btP 0 0 [] false false) inp [] 0 0 0,5000)=some (lQ stP true (4,bt) [] (twice (bT inp)) st wk 0,0):=by
 obtain ⟨bt,st,wk,hg⟩:=go inp.length inp [] 0 0 [] false false 1 (w1 0) 0 (Nat.le_refl _) (by omega) (by simp; omega) (by omega)
 refine ⟨bt,st,wk,?_⟩
 have hb:kW 2000 (stP,[])=some []:=by
  unfold kW
  exact if_pos rfl
 show fix (gN 2000) 2000 (zNt 0 (lQ stP false (0,btP 0 0 [] false false) inp [] 0 0 0))=_
 rw [Fa (by omega) (by omega) (by omega) (zYv wV false (btP 0 0 [] false false) inp [] 0 0 0) (zVw wV false (btP 0 0 [] false false) inp [] 0 0 0 hb)]
 exact hg
end Go.Dec
namespace Go.Dec
theorem yLq {n:Nat} {a:List UInt8} (h:a.length <= 1000000):eU n (10,aV a,())=some (false,aV (a++[10]),()):=by
 unfold eU jV
 simp only [eH]
 rw [bK (by simp only [Ry,List.length_cons,List.length_nil]; simp [room]; omega),Gz]
 rfl
theorem zRa {n:Nat} {l:List iJ} (hl:l.length <= 1000) (hs:fC l <= 10000):∀ (r pre:List iJ) (m:Nat),l=pre++r->r.length < m->(joinL pre).length <= fC pre ->
  fix (oL n) m (l,(l.length:Int),(pre.length:Int),aV (joinL pre),())=some (joinL l)
 | [],pre,m,hp,hm,ha=>by
  have hp:pre=l:=by simpa using hp.symm
  subst hp
  rw [rJ (by omega),oL]
  simp only
  rw [fO (by simp),Wp]
  rfl
 | e :: r,pre,m,hp,hm,ha=>by
  have hm':r.length+1 < m:=hm
  have hlen:l.length=pre.length+r.length+1:=by rw [hp]; simp; omega
  have hsum:fC l=fC pre+(e.1.length+1+fC r):=by rw [hp,Fb]; rfl
  have hsp:fC (pre++[e])=fC pre+(e.1.length+1):=by rw [Fb]; simp [fC]
  have hj:joinL (pre++[e])=joinL pre++nV e:=by simp [joinL]
  have hle:(nV e).length <= e.1.length+1:=by unfold nV; split <;> simp
  have hi:=zRa (n:=n) hl hs r (pre++[e]) (m - 1) (by rw [hp]; simp) (by omega) (by rw [hj,List.length_append]; omega)
  rw [show ((pre++[e]).length:Int)=(pre.length:Int)+1 by simp,hj] at hi
  rw [rJ (by omega),oL]
  simp only
  rw [pX (decide_eq_true (by omega)),bK (zSz (by omega)),Rx hp,zVx (by omega)]
  simp only [eH]
  cases he:e.2.1 with
  | true =>
   rw [yAr,yLq (by rw [List.length_append]; omega),eH]
   simp only
   rw [Un (by omega) (by omega),show joinL pre++e.1++[10]=joinL pre++nV e by simp [nV,he]]
   exact hi
  | false =>
   rw [yHy,Un (by omega) (by omega),show joinL pre++e.1=joinL pre++nV e by simp [nV,he]]
   exact hi
theorem join_eq {l:List iJ} (hl:l.length <= 1000) (hs:fC l <= 10000):rX 2000 l=some (joinL l):=by
 unfold rX
 exact zRa (n:=2000) hl hs l [] 2000 rfl (by omega) (by simp [joinL])
theorem yGq {line inp s:List UInt8} {scr:zEp} {q:Bool} {b:BkD} {bt:BtD} {out:List iJ} {st wk hd:Int} (hp:kV 2000 (line,[])=some ([iK scr q],0,0)) (hn:Ef 2000 ([iK scr q],inp,[],false)=some (lQ (iK scr q) false b inp [] 0 0 0,0))
  (hr:Eo 2000 (lQ (iK scr q) false b inp [] 0 0 0,5000)=some (lQ (iK scr q) true (4,bt) [] out st wk hd,0)) (hb:rW 2000 out=some s):Ep 2000 (line,inp)=some (s,true):=by
 unfold Ep Ht gU
 simp only
 rw [hp,eH,fO (by rfl)]
 unfold yU
 simp only
 rw [hn,eH,fO (by rfl),hr,eH]
 simp only
 rw [hb,eH]
 simp only [eH]
 rw [fO (by rfl)]
 rfl
def Tx:List iJ->Prop
 | []=>True
 | e :: r=>(r=[]∨e.2.1=true)∧Tx r
theorem Ao:∀ (r w:List UInt8),Tx (gL w r)
 | [],w=>by cases w <;> simp [gL,Tx]
 | c :: r,w=>by
  unfold gL
  split
  ·exact ⟨.inr rfl,Ao r []⟩
  ·exact Ao r _
theorem zHc:∀ (l:List iJ),fC l <= (joinL l).length+l.length
 | []=>by simp [fC]
 | e :: r=>by
  have:=zHc r
  simp only [fC,joinL,List.flatMap_cons,List.length_append,nV,List.length_cons] at *
  omega
def mU:List iJ->List iJ
 | []=>[]
 | x :: r=>(x.1,(true,())) :: x :: mU r
theorem zHd:∀ a b:List iJ,mU (a++b)=mU a++mU b
 | [],_=>rfl
 | x :: a,b=>by simp [mU,zHd a b]
theorem Tz:∀ l:List iJ,(mU l).length=2 * l.length
 | []=>rfl
 | x :: r=>by simp only [mU,List.length_cons,Tz r]; omega
theorem zHe:∀ l:List iJ,fC (mU l)=2 * fC l
 | []=>rfl
 | x :: r=>by simp only [mU,fC,zHe r]; omega
theorem zHf:∀ l:List iJ,fC (twice l)=2 * fC l
 | []=>rfl
 | x :: r=>by simp only [twice,fC,zHf r]; omega
theorem zDb:∀ l:List iJ,Tx l->oU [] (twice l)=joinL (mU l)
 | [],_=>rfl
 | x :: r,⟨h1,h2⟩=>by
  have ih:=zDb r h2
  have hj:joinL (mU (x :: r))=nV (x.1,(true,()))++(nV x++joinL (mU r)):=by simp [mU,joinL]
  rw [hj]
  cases hx:x.2.1 with
  | true=>simp [twice,oU,nV,hx,ih]
  | false =>
   rcases h1 with h1 | h1
   ·subst h1
    simp [twice,oU,nV,hx,mU,joinL]
   ·rw [hx] at h1; cases h1
theorem zRb {l:List iJ} (hl:l.length <= 400) (s:List UInt8):∀ (r pre:List iJ) (m:Nat),l=pre++r->r.length < m ->
  fix (jO 2000) m (l,s,true,(pre.length:Int),mU pre,())=ob (rX 2000 (mU l)) fun y=>some (s == y)
 | [],pre,m,hp,hm=>by
  have hp:pre=l:=by simpa using hp.symm
  subst hp
  rw [rJ (by omega),jO]
  simp only
  rw [fO (by simp),yAr]
 | e :: r,pre,m,hp,hm=>by
  have hlen:l.length=pre.length+r.length+1:=by rw [hp]; simp; omega
  have hm:r.length+1 < m:=by simpa using hm
  have ih:=zRb (s:=s) hl r (pre++[e]) (m - 1) (by rw [hp]; simp) (by omega)
  rw [show ((pre++[e]).length:Int)=(pre.length:Int)+1 by simp,zHd] at ih
  rw [rJ (by omega),jO]
  simp only
  rw [pX (decide_eq_true (by omega)),bK (zSz (by omega)),Rx hp,bK (zSz (by omega)),bK (Nat.ble_eq_true_of_le (by simp only [Tz,List.length_cons,List.length_nil]; unfold room; omega)),Un (by omega) (by omega)]
  exact ih
theorem Qe (inp:List UInt8) (hw:inp.length < 1048576):Er 2000 inp=some true:=by
 unfold Er
 simp only
 rw [show jC 2000 inp=some (bT inp) from by unfold jC; rw [bK (decide_eq_true (by omega))],eH]
 by_cases h:300 < inp.length
 ·rw [pX (decide_eq_true (by omega))]; rfl
 rw [fO (decide_eq_false (by omega)),show showntop 2000 ()=some true from rfl,eH,fO (by rfl)]
 have h2:=Bv inp []
 have h3:=zHc (bT inp)
 rw [Ra] at h3
 have hlen:(bT inp).length <= 301:=by simp only [bT]; omega
 obtain ⟨bt,st,wk,hr⟩:=yGp (inp:=inp) (by omega)
 have hp:kV 2000 ([115,101,100,32,112],[])=some ([stP],0,0):=by
  unfold kV
  exact if_pos rfl
 rw [yGq hp (yLp inp) hr (yGm (by rw [zHb]; omega) (by rw [zHf]; omega) (by omega)),eH]
 rw [show fix (jO 2000) 2000 (bT inp,oU [] (twice (bT inp)),true,0,[],())=_ from zRb (by omega) _ (bT inp) [] 2000 rfl (by omega)]
 rw [join_eq (by rw [Tz]; omega) (by rw [zHe]; omega),eH,zDb _ (show Tx (bT inp) from Ao inp [])]
 simp
end Go.Dec
