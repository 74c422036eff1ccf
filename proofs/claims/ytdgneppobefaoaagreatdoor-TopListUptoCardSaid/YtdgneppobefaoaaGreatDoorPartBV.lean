/- Part of a proof over this seat: a library of my own, and what it says of this seat. No statement is proved here. -/
import Derived.Test.YtdgneppobefaoaaGreatDoorPartBT
import Derived.Test.YtdgneppobefaoaaGreatDoorPartBA
import Derived.KernelRfl
namespace Go.Dec
abbrev mG:Type:=List UInt8 × Bool × Unit
abbrev BtD:Type:=Int × Int × Int × Int × List UInt8 × List UInt8 × Bool × Bool × Bool × List (Bool × Int × Unit) × List mG × Unit
abbrev BkD:Type:=Int × BtD
abbrev jH (scr:zHp) (q:Bool):eZ:=(scr,(q,([],(false,()))))
abbrev mU (g:eZ) (bg:Bool) (b:BkD) (d:List UInt8) (out:List mG) (st wk hd:Int):bP [iC] :=
 ([g],([false],(false,([b],([bg],([[]],([(d,(false,(true,())))],(out,([],([0],(st,(wk,(hd,())))))))))))))
section
variable (scr:zHp) (q:Bool) (bt:BtD) (d:List UInt8) (out:List mG) (st wk hd:Int)
theorem yDh:iM 2000 (mU (jH scr q) false (0,bt) d out st wk hd)=some 0:=by kernel_rfl
theorem zRk:iM 2000 (mU (jH scr q) true (1,bt) d out st wk hd)=some 0:=by kernel_rfl
theorem yOy:iM 2000 (mU (jH scr q) true (4,bt) d out st wk hd)=some (-1):=by kernel_rfl
theorem zVb:iM 2000 (mU (jH scr q) true (0,bt) [] out st wk hd)=some 0:=by kernel_rfl
theorem yLa (l:List mG):jV 2000 l=some l:=by
 unfold jV
 exact aV (by simp) _
theorem zFk (g:eZ) (bg:Bool) (b:BkD):lX 2000 ([g],[false],false,[b],[bg],[[]],[(d,(false,(true,())))],out,[],[0],st,wk,hd,()) =
  some ([g],[false],false,out,[],st,wk,hd,[b],[bg],[[]],[(d,(false,(true,())))],[0],()):=by
 have h:lX 2000 ([g],[false],false,[b],[bg],[[]],[(d,(false,(true,())))],out,[],[0],st,wk,hd,()) =
  ob (jV 2000 out) fun y=>some ([g],[false],false,y,[],st,wk,hd,[b],[bg],[[]],[(d,(false,(true,())))],[0],()):=by kernel_rfl
 rw [h,yLa,dD]
theorem zRl {c:UInt8} {r:List UInt8} {t u:List UInt8} {e:Bool} (h:strings_Cut 2000 (c :: r,[10])=some (t,u,e)):pI 2000 (c :: r,(false,(true,())))=some ((u,(false,(true,()))),(t,(e,())),(u == []),true):=by
 unfold pI
 simp only
 rw [h,dD]
 cases u with
 | nil=>rfl
 | cons x y=>rfl
theorem yDi {c:UInt8} {r:List UInt8} {t u:List UInt8} {e:Bool} (h:strings_Cut 2000 (c :: r,[10])=some (t,u,e)):iM 2000 (mU (jH scr q) true (0,bt) (c :: r) out st wk hd)=some 0:=by
 have h1:qF 2000 (0,[jH scr q],[false],false,[(0,bt)],[true],[[]],[(c :: r,(false,(true,())))],out,[],[0],st,wk,hd,()) =
   ob (tY 2000 (c :: r,(false,(true,())))) fun y=>br y.2.2 (some (true,[jH scr q],[false],false,[(0,bt)],[true],[[]],[(c :: r,(false,(true,())))],out,[],[0],st,wk,hd,())) (ob (Eo 2000 (c :: r,(false,(true,())))) fun z=>some (z,[jH scr q],[false],false,[(0,bt)],[true],[[]],[(c :: r,(false,(true,())))],out,[],[0],st,wk,hd,())):=by kernel_rfl
 have h2:tY 2000 (c :: r,(false,(true,())))=some ((t,(e,())),(u == []),true):=by
  unfold tY
  simp only
  rw [zRl h,dD]
 rw [h2,dD,dV rfl] at h1
 unfold iM
 simp only
 rw [mX (by omega),Ju]
 simp only
 rw [dV (by rfl)]
 rw [show IntKind.wrap .i64 (([jH scr q].length:Int) - 1)=0 from rfl,h1,dD,dV rfl]
theorem yAe (hb:lW 2000 (jH scr q,[])=some []):jK 2000 (mU (jH scr q) false (0,bt) d out st wk hd)=some (mU (jH scr q) true (0,bt) d out (IntKind.wrap .i64 (st+1)) wk hd):=by
 unfold jK
 simp only
 rw [yDh,dD,dB (by rfl),zFk,dD]
 rw [aV (by rfl),aV (by rfl),dV (by rfl)]
 unfold nL
 simp only
 rw [aV (by rfl),aV (by rfl),aV (by rfl),dB (by rfl)]
 rw [show bZ (Ty.dflt aM) [jH scr q] 0=jH scr q from rfl,hb,dD,dB (by rfl),dD]
 rfl
end
end Go.Dec
namespace Go.Dec
theorem zFl {α β:Type} {x:Option α} {y:α} {k:α->Option β} {r:Option β} (h:x=some y) (hk:k y=r):ob x k=r:=by rw [h,dD]; exact hk
theorem yQz {α:Type} {c:Bool} {x y r:Option α} (h:c=false) (hy:y=r):br c x y=r:=by rw [dB h]; exact hy
section
variable (scr:zHp) (q:Bool) (bt:BtD) (d:List UInt8) (out:List mG) (st wk hd:Int)
abbrev w1 (n:Int):Int:=IntKind.wrap .i64 (n+1)
theorem yLb (g:eZ) (b:BkD) (o:List mG) (ho:out.length+o.length <= 1000):kV 2000 (0,o,[g],[false],false,out,[],st,wk,hd,[b],[true],[[]],[(d,(false,(true,())))],[0],()) =
  some ([g],[false],false,out++o,[],st,wk,hd,[b],[true],[[]],[(d,(false,(true,())))],[0],()):=by
 unfold kV
 simp only
 rw [dV (by rfl),aV (Nat.ble_eq_true_of_le (by unfold room; omega))]
theorem run_eq {b':BkD} {o:List mG} (h:pJ 2000 (scr,(q,((1,bt),[])))=some (b',[],o)) (ho:out.length+o.length <= 1000) (h4:(b'.1 == 4)=false) :
  lZ 2000 (0,[jH scr q],[false],false,out,[],st,wk,hd,[(1,bt)],[true],[[]],[(d,(false,(true,())))],[0],()) =
  some ([jH scr q],[false],false,out++o,[],st,w1 wk,hd,[b'],[true],[[]],[(d,(false,(true,())))],[0],()):=by
 unfold lZ
 simp only
 rw [aV (by rfl),aV (by rfl),aV (by rfl)]
 refine zFl h ?_
 dsimp only
 rw [aV (by rfl),aV (by rfl)]
 refine zFl (yLb d out st _ hd (jH scr q) b' o ho) ?_
 dsimp only
 unfold lI
 simp only
 rw [aV (by rfl),aV (by rfl),dD]
 exact yQz h4 rfl
theorem zRm {b':BkD} {o:List mG} (h:pJ 2000 (scr,(q,((1,bt),[])))=some (b',[],o)) (ho:out.length+o.length <= 1000) (h4:(b'.1 == 4)=false) :
  jK 2000 (mU (jH scr q) true (1,bt) d out st wk hd)=some (mU (jH scr q) true b' d (out++o) (w1 st) (w1 wk) hd):=by
 unfold jK
 simp only
 rw [zRk,dD,dB (by rfl),zFk,dD]
 rw [aV (by rfl),aV (by rfl),dB (by rfl),aV (by rfl),aV (by rfl),dV (by rfl)]
 rw [run_eq scr q bt d out _ wk hd h ho h4,dD]
abbrev took (bt:BtD) (t:List UInt8) (e l:Bool):BkD:=(1,(0,(w1 bt.2.1,(bt.2.2.1,(bt.2.2.2.1,(t,(bt.2.2.2.2.2.1,(e,(l,bt.2.2.2.2.2.2.2.2)))))))))
theorem step_take {c:UInt8} {r t u:List UInt8} {e:Bool} (h:strings_Cut 2000 (c :: r,[10])=some (t,u,e)) :
  jK 2000 (mU (jH scr q) true (0,bt) (c :: r) out st wk hd)=some (mU (jH scr q) true (took bt t e (u == [])) u out (w1 st) wk hd):=by
 unfold jK
 simp only
 rw [yDi scr q bt out st wk hd h,dD,dB (by rfl),zFk,dD]
 rw [aV (by rfl),aV (by rfl),dB (by rfl),aV (by rfl),aV (by rfl),dB (by rfl)]
 unfold oG
 simp only
 rw [aV (by rfl),dV (by rfl),aV (by rfl),aV (by rfl)]
 rw [show pI 2000 (([((c :: r:List UInt8),(false,(true,())))].getD (0+(0:Int).toNat) (Ty.dflt aY)).1,(([((c :: r:List UInt8),(false,(true,())))].getD (0+(0:Int).toNat) (Ty.dflt aY)).2.1,(([((c :: r:List UInt8),(false,(true,())))].getD (0+(0:Int).toNat) (Ty.dflt aY)).2.2.1,())))=_ from zRl h,dD]
 rw [aV (by rfl),aV (by rfl),dD,dV (by rfl),aV (by rfl),aV (by rfl)]
 unfold Ka
 simp only
 rw [dV (by rfl),dD,aV (by rfl),aV (by rfl)]
 rfl
theorem step_end:jK 2000 (mU (jH scr q) true (0,bt) [] out st wk hd)=some (mU (jH scr q) true (4,bt) [] out (w1 st) wk hd):=by
 unfold jK
 simp only
 rw [zVb,dD,dB (by rfl),zFk,dD]
 kernel_rfl
end
abbrev zRn (k:Int) (m:bP [iC]):=((5000:Int),k,m.1,m.2.1,m.2.2.1,m.2.2.2.1,m.2.2.2.2.1,m.2.2.2.2.2.1,m.2.2.2.2.2.2.1,m.2.2.2.2.2.2.2.1,m.2.2.2.2.2.2.2.2.1,m.2.2.2.2.2.2.2.2.2.1,m.2.2.2.2.2.2.2.2.2.2.1,m.2.2.2.2.2.2.2.2.2.2.2.1,m.2.2.2.2.2.2.2.2.2.2.2.2.1,([]:List eZ),([]:List Bool),false,([]:List Bool),([]:List (List mG)),([]:List (List UInt8 × Bool × Bool × Unit)),([]:List zHq),([]:List Int),(0:Int),(0:Int),(0:Int),([]:List BkD),([]:List mG),())
theorem Ie {m m':bP [iC]} {k:Int} {f:Nat} (hf:0 < f) (hk:k < 5000) (h0:0 <= k) (hn:iM 2000 m=some 0) (hs:jK 2000 m=some m') :
  fix (iN 2000) f (zRn k m)=fix (iN 2000) (f - 1) (zRn (k+1) m'):=by
 rw [mX hf,iN]
 dsimp only
 refine zFl hn ?_
 rw [dV (by rfl),dB (decide_eq_false (by omega))]
 refine zFl hs ?_
 rw [Ea (by omega) (by omega)]
theorem yHg {m:bP [iC]} {k:Int} {f:Nat} (hf:0 < f) (hn:iM 2000 m=some (-1)):fix (iN 2000) f (zRn k m)=some (m,0):=by
 rw [mX hf,iN]
 dsimp only
 refine zFl hn ?_
 rw [dB (by rfl)]
end Go.Dec
namespace Go.Dec
abbrev Yf:Type:=List UInt8 × Bool × Unit
def jQ:List UInt8->List Yf->List UInt8
 | _,[]=>[]
 | g,e :: r=>g++e.1++(if e.2.1 then [10]++jQ [] r else jQ [10] r)
def jI:List Yf->Nat
 | []=>0
 | e :: r=>e.1.length+1+jI r
theorem zBt:∀ (a b:List Yf),jI (a++b)=jI a+jI b
 | [],b=>by simp [jI]
 | e :: a,b=>by simp only [List.cons_append,jI,zBt a b]; omega
theorem zMh {n:Nat} {s:List UInt8} {a:List UInt8} (h:a.length+s.length <= 1000000):aX n (s,bA a,())=some ((s.length:Int),false,bA (a++s),()):=by
 unfold aX vT
 simp only [dD]
 rw [aV (by simp only [Vi]; simp [room]; omega),Jr]
theorem yHh {n:Nat} {l:List Yf} (hl:l.length <= 1000) (hs:jI l <= 10000):∀ (r pre:List Yf) (g a:List UInt8) (m:Nat),l=pre++r->r.length < m->a.length+g.length <= jI pre ->
  fix (mD n) m (g,l,(l.length:Int),(pre.length:Int),bA a,())=some (a++jQ g r):=by
 intro r
 induction r with
 | nil =>
  intro pre g a m hp hm ha
  have hp:pre=l:=by simpa using hp.symm
  subst hp
  rw [mX (by omega),mD]
  simp only
  rw [dB (by simp),Zg]
  simp [jQ]
 | cons e r ih =>
  intro pre g a m hp hm ha
  have hm':r.length+1 < m:=hm
  have hlen:l.length=pre.length+r.length+1:=by rw [hp]; simp; omega
  have hsum:jI l=jI pre+(e.1.length+1+jI r):=by rw [hp,zBt]; rfl
  have hsp:jI (pre++[e])=jI pre+(e.1.length+1):=by rw [zBt]; simp [jI]
  have hi:∀ (g' a':List UInt8),a'.length+g'.length <= jI (pre++[e])->fix (mD n) (m - 1) (g',l,(l.length:Int),(pre.length:Int)+1,bA a',())=some (a'++jQ g' r):=fun g' a' h1=>by
   have:=ih (pre++[e]) g' a' (m - 1) (by rw [hp]; simp) (by omega) h1
   rwa [show ((pre++[e]).length:Int)=(pre.length:Int)+1 by simp] at this
  rw [mX (by omega),mD]
  simp only
  rw [dV (decide_eq_true (by omega)),aV (zXc (by omega)),Jq hp,aV (decide_eq_true (by simp [kD]; omega)),zMh (by simp; omega)]
  simp only [dD]
  cases he:e.2.1 with
  | true =>
   simp only [yRu]
   rw [zMh (by simp; omega)]
   simp only [dD]
   rw [Ea (by omega) (by omega),hi _ _ (by simp; omega)]
   simp [jQ,he]
  | false =>
   simp only [yRv]
   rw [Ea (by omega) (by omega),hi _ _ (by simp; omega)]
   simp [jQ,he]
theorem yLc {n:Nat} {l:List Yf} (hl:l.length <= 1000) (hs:jI l <= 10000) (hn:1500 <= n):uE n l=some (jQ [] l):=by
 unfold uE
 exact yHh (n:=n) hl hs l [] [] [] n rfl (by omega) (by simp [jI])
end Go.Dec
namespace Go.Dec
def pE (b:UInt8):List UInt8:=(nX 0 (b.toNat:Int)).getD []
def yOz (v : Nat) : Bool :=
  let b := UInt8.ofNat v
  let p := pE b
  (nX 0 ((b.toNat : Nat) : Int) == some p) && !p.contains 10 && Nat.ble p.length 4 &&
   (if v == 92 then p == [92, 92] else if Nat.ble 7 v && Nat.ble v 13 then p == [92, [97, 98, 116, 110, 118, 102, 114].getD (v - 7) 0] else if Nat.ble 32 v && Nat.ble v 126 then p == [b] else p == [92, UInt8.ofNat (48 + v / 64), UInt8.ofNat (48 + v / 8 % 8), UInt8.ofNat (48 + v % 8)])
set_option maxRecDepth 100000 in
theorem yLd:∀ v,v < 256->yOz v=true:=by decide +kernel
theorem Ww (b:UInt8):nX 0 (b.toNat:Int)=some (pE b)∧(10:UInt8) ∉ pE b∧(pE b).length <= 4 ∧
  ((b=92∧pE b=[92,92])∨(b ≠ 92∧7 <= b.toNat∧b.toNat <= 13∧pE b=[92,[97,98,116,110,118,102,114].getD (b.toNat - 7) 0])∨(b ≠ 92∧pE b=[b]) ∨
   (b ≠ 92∧pE b=[92,UInt8.ofNat (48+b.toNat / 64),UInt8.ofNat (48+b.toNat / 8 % 8),UInt8.ofNat (48+b.toNat % 8)])):=by
 have h:=yLd b.toNat b.toNat_lt
 have e:UInt8.ofNat b.toNat=b:=by simp
 unfold yOz at h
 simp only [e,aF,beq_iff_eq,Bool.not_eq_true',Nat.ble_eq] at h
 obtain ⟨⟨⟨h1,h2⟩,h3⟩,h4⟩:=h
 refine ⟨h1,by simpa using h2,h3,?_⟩
 by_cases c1:b.toNat=92
 ·rw [if_pos c1] at h4
  exact .inl ⟨by rw [<- e,c1]; rfl,by simpa using h4⟩
 have cb:b ≠ 92:=fun hb=>c1 (by rw [hb]; rfl)
 rw [if_neg c1] at h4
 by_cases c2:7 <= b.toNat∧b.toNat <= 13
 ·rw [if_pos c2] at h4
  exact .inr (.inl ⟨cb,c2.1,c2.2,by simpa using h4⟩)
 rw [if_neg c2] at h4
 by_cases c3:32 <= b.toNat∧b.toNat <= 126
 ·rw [if_pos c3] at h4
  exact .inr (.inr (.inl ⟨cb,by simpa using h4⟩))
 rw [if_neg c3] at h4
 exact .inr (.inr (.inr ⟨cb,by simpa using h4⟩))
theorem yHi (n:Nat) (b:UInt8):nX n (b.toNat:Int)=some (pE b):=(Ww b).1
def eU:List UInt8->List UInt8
 | []=>[]
 | b :: r=>pE b++eU r
theorem zKm:∀ a b:List UInt8,eU (a++b)=eU a++eU b
 | [],_=>rfl
 | x :: a,b=>by simp [eU,zKm a b]
theorem pK:∀ s:List UInt8,(eU s).length <= 4 * s.length
 | []=>aJ _
 | b :: r=>by
  have:=(Ww b).2.2.1
  have:=pK r
  simp only [eU,List.length_append,List.length_cons]
  omega
theorem zRo:∀ s:List UInt8,(10:UInt8) ∉ eU s
 | []=>by simp [eU]
 | b :: r=>by
  simp only [eU,List.mem_append,not_or]
  exact ⟨(Ww b).2.1,zRo r⟩
theorem zVc {n:Nat} {s:List UInt8} (hs:s.length <= 1000):∀ (r pre:List UInt8) (m:Nat) (k:Int),s=pre++r->r.length < m ->
  fix (qI n) m (s,(s.length:Int),(pre.length:Int),0,k,bA (eU pre),())=some (eU s++[36,10])
 | [],pre,m,k,hp,hm=>by
  have hp:pre=s:=by simpa using hp.symm
  subst hp
  have:=pK pre
  rw [mX (by omega),qI]
  simp only
  rw [dB (by simp),zMh (by simp; omega),dD]
  simp only
  rw [Zg]
  rfl
 | e :: r,pre,m,k,hp,hm=>by
  have hm':r.length+1 < m:=hm
  have hlen:s.length=pre.length+r.length+1:=by rw [hp]; simp; omega
  have hj:eU (pre++[e])=eU pre++pE e:=by simp [zKm,eU]
  have hi:=zVc (n:=n) hs r (pre++[e]) (m - 1) (IntKind.wrap .i64 (k+((pE e).length:Int))) (by rw [hp]; simp) (by omega)
  rw [show ((pre++[e]).length:Int)=(pre.length:Int)+1 by simp,hj] at hi
  have hl:=pK pre
  have hl2:=(Ww e).2.2.1
  rw [mX (by omega),qI]
  simp only
  rw [dV (decide_eq_true (by omega)),aV (zXc (by omega)),Jq hp,yHi,dD]
  unfold yE
  simp only
  rw [dB (by rfl),zMh (by omega)]
  simp only [dD]
  rw [Ea (by omega) (by omega)]
  exact hi
theorem zVd {s:List UInt8} (hs:s.length <= 1000):nO 2000 (s,0)=some (eU s++[36,10]):=by
 unfold nO
 exact zVc (n:=2000) hs s [] 2000 0 rfl (by omega)
end Go.Dec
namespace Go.Dec
theorem yPa {n:Nat} {a u:List UInt8} (h:a.length+u.length <= 1000000):strings_CutSuffix n (a++u,u)=some (a,true):=by
 have h1:bR n (a++u,u)=some true:=by
  unfold bR
  simp only
  rw [dV (decide_eq_true (by simp <;> omega)),Ea (by simp <;> omega) (by simp <;> omega),aV (by simp <;> omega),show (((a++u).length:Int) - (u.length:Int)).toNat=a.length by simp]
  simp
 unfold strings_CutSuffix gB
 simp only
 rw [h1,dD,dB (by rfl),Ea (by simp <;> omega) (by simp <;> omega),aV (by simp <;> omega),show (((a++u).length:Int) - (u.length:Int)).toNat=a.length by simp]
 simp [dD]
theorem yLe {n:Nat} {x:UInt8} {r:List UInt8} (h:x ≠ 92) (hl:r.length <= 1000000):strings_CutPrefix n (x :: r,[92,10])=some (x :: r,false):=by
 have h1:dH n (x :: r,[92,10])=some false:=by
  unfold dH
  simp only
  by_cases hc:(((x :: r).length:Int) ≥ (([92,10]:List UInt8).length:Int))
  ·rw [dV (decide_eq_true hc),aV (by simp; simpa using hc)]
   simp [h]
  ·rw [dB (decide_eq_false hc)]
 unfold strings_CutPrefix eG
 simp only
 rw [h1,dD,dV (by rfl),dD]
theorem zIp {n:Nat} {x y:UInt8} {r:List UInt8} (h:y ≠ 10) (hl:r.length <= 1000000):strings_CutPrefix n (x :: y :: r,[92,10])=some (x :: y :: r,false):=by
 have h1:dH n (x :: y :: r,[92,10])=some false:=by
  unfold dH
  simp only
  rw [dV (by simp <;> omega),aV (by simp <;> omega)]
  simp [h]
 unfold strings_CutPrefix eG
 simp only
 rw [h1,dD,dV (by rfl),dD]
theorem Yg {x:UInt8} {r:List UInt8}:bZ 0 (x :: r) 0=x:=rfl
theorem zIq {x y:UInt8} {r:List UInt8}:bZ 0 (x :: y :: r) 1=y:=rfl
theorem ne_nil {x:UInt8} {r:List UInt8}:(!((x :: r:List UInt8) == []))=true:=rfl
theorem yDj:∀ v,v < 256->Nat.ble 7 v && Nat.ble v 13=true->Go.Lib.indexByte [97,98,116,110,118,102,114] (([97,98,116,110,118,102,114]:List UInt8).getD (v - 7) 0)=((v - 7:Nat):Int)∧([97,98,116,110,118,102,114]:List UInt8).getD (v - 7) 0 ≠ 10:=by decide +kernel
theorem yLf:∀ v,v < 256->Go.Lib.indexByte [97,98,116,110,118,102,114] (UInt8.ofNat (48+v / 64))=-1∧UInt8.ofNat (48+v / 64) ≠ 10∧UInt8.ofNat (48+v / 64) ≠ 92 ∧
  Vl [UInt8.ofNat (48+v / 64),UInt8.ofNat (48+v / 8 % 8),UInt8.ofNat (48+v % 8)]=some ((v:Int),false):=by decide +kernel
section
variable (n:Nat) (g:List UInt8 × List UInt8 × List (Int) × Unit->Option (List UInt8 × Int)) (s:List UInt8)
theorem yDk (b:UInt8) (r a:List UInt8) (ha:a.length <= 1000) (hr:r.length <= 10000):fG n g (s,pE b++r,bA a,())=g (s,r,bA (a++[b]),()):=by
 have hroom:∀ v:Int,Nat.ble (((bA a).length+([v]:List (Int)).length) * 1) room=true:=fun v=>Nat.ble_eq_true_of_le (by simp only [Vi,List.length_cons,List.length_nil]; unfold room; omega)
 have hb:bA (a++[b])=bA a++[(b.toNat:Int)]:=by rw [Jr]; rfl
 have hlt:=b.toNat_lt
 rcases (Ww b).2.2.2 with ⟨h1,h2⟩ | ⟨h1,h3,h4,h2⟩ | ⟨h1,h2⟩ | ⟨h1,h2⟩
 ·subst h1
  rw [h2,hb]
  unfold fG
  simp only [List.cons_append,List.nil_append]
  rw [dV ne_nil,zIp (by decide) (by omega),dD]
  simp only
  rw [dB (by rfl),aV (by simp [inB] <;> omega),Yg,dV (by rfl),dV (by simp; omega),aV (by simp [inB] <;> omega),zIq,show strings_IndexByte n ([97,98,116,110,118,102,114],((92:UInt8).toNat:Int))=some (-1) from by unfold strings_IndexByte; decide +kernel,dD,dB (by rfl)]
  have hp:fP n (((92 :: 92 :: r:List UInt8).take (if ((92 :: 92 :: r:List UInt8).length:Int) < 4 then ((92 :: 92 :: r:List UInt8).length:Int) else 4).toNat).drop (1:Int).toNat,8,8)=some (0,true):=by
   have e:∃ m,(if ((92 :: 92 :: r:List UInt8).length:Int) < 4 then ((92 :: 92 :: r:List UInt8).length:Int) else 4).toNat=m+2∧m <= 2:=by
    by_cases hc:((92 :: 92 :: r:List UInt8).length:Int) < 4
    ·rw [if_pos hc]; exact ⟨r.length,by simp; omega,by simp at hc; omega⟩
    ·rw [if_neg hc]; exact ⟨2,rfl,aJ _⟩
   obtain ⟨m,hm,hm2⟩:=e
   rw [hm]
   have e2:((92 :: 92 :: r:List UInt8).take (m+2)).drop (1:Int).toNat=92 :: r.take m:=rfl
   rw [e2]
   unfold fP Vl
   simp only
   rw [aV (by rfl),dV (by rfl),aV (decide_eq_true (by simp; omega))]
  rw [aV (by
   by_cases hc:((92 :: 92 :: r:List UInt8).length:Int) < 4
   ·rw [if_pos hc]; simp; omega
   ·rw [if_neg hc]; simp at hc ⊢; omega),hp,dD,dB (by rfl),aV (hroom _),aV (by simp; omega)]
  rfl
 ·obtain ⟨k1,k2⟩:=yDj b.toNat hlt (by simp; omega)
  generalize hy:([97,98,116,110,118,102,114]:List UInt8).getD (b.toNat - 7) 0=y at *
  rw [h2,hb]
  unfold fG
  simp only [List.cons_append,List.nil_append]
  have hi:strings_IndexByte n ([97,98,116,110,118,102,114],(y.toNat:Int))=some ((b.toNat - 7:Nat):Int):=by
   unfold strings_IndexByte
   simp only
   rw [show ((y.toNat:Int)).toNat.toUInt8=y by simp,k1]
  rw [dV ne_nil,zIp k2 (by omega),dD]
  simp only
  rw [dB (by rfl),aV (by simp [inB] <;> omega),Yg,dV (by rfl),dV (by simp; omega),aV (by simp [inB] <;> omega),zIq,hi,dD,dV (decide_eq_true (by omega)),aV (hroom _),aV (by simp; omega)]
  have e:IntKind.wrap .u8 (7+IntKind.wrap .u8 ((b.toNat - 7:Nat):Int))=(b.toNat:Int):=by
   have:∀ v:Nat,v < 256->7 <= v->v <= 13->IntKind.wrap .u8 (7+IntKind.wrap .u8 ((v - 7:Nat):Int))=(v:Int):=by decide +kernel
   exact this _ hlt h3 h4
  rw [e]
  rfl
 ·rw [h2,hb]
  unfold fG
  simp only [List.cons_append,List.nil_append]
  rw [dV ne_nil,yLe h1 (by omega),dD]
  simp only
  rw [dB (by rfl),aV (by simp [inB] <;> omega),Yg,dB (by
   have:b.toNat ≠ 92:=fun h=>h1 (UInt8.toNat_inj.1 h)
   simp; omega),aV (hroom _),aV (by simp; omega)]
  rfl
 ·obtain ⟨k1,k2,k3,k4⟩:=yLf b.toNat hlt
  generalize UInt8.ofNat (48+b.toNat / 64)=x at *
  generalize UInt8.ofNat (48+b.toNat / 8 % 8)=y at *
  generalize UInt8.ofNat (48+b.toNat % 8)=z at *
  rw [h2,hb]
  unfold fG
  simp only [List.cons_append,List.nil_append]
  have hi:strings_IndexByte n ([97,98,116,110,118,102,114],(x.toNat:Int))=some (-1):=by
   unfold strings_IndexByte
   simp only
   rw [show ((x.toNat:Int)).toNat.toUInt8=x by simp,k1]
  have hl4:¬ ((92 :: x :: y :: z :: r:List UInt8).length:Int) < 4:=by simp; omega
  rw [dV ne_nil,zIp k2 (by simp; omega),dD]
  simp only
  rw [dB (by rfl),aV (by simp [inB] <;> omega),Yg,dV (by rfl),dV (by simp; omega),aV (by simp [inB] <;> omega),zIq,hi,dD,dB (by rfl),if_neg hl4,aV (by simp; omega)]
  have hp:fP n (((92 :: x :: y :: z :: r:List UInt8).take (4:Int).toNat).drop (1:Int).toNat,8,8)=some ((b.toNat:Int),false):=by
   unfold fP
   simp only
   rw [aV (by rfl)]
   exact k4
  have e:IntKind.wrap .u8 (b.toNat:Int)=(b.toNat:Int):=by
   have:∀ v:Nat,v < 256->IntKind.wrap .u8 (v:Int)=(v:Int):=by decide +kernel
   exact this _ hlt
  rw [hp,dD,dV (by rfl),dV (by simp; omega),aV (hroom _),aV (by simp; omega),e]
  rfl
end
theorem zVe {n:Nat} {t s:List UInt8} (ht:t.length <= 1000):∀ (r pre:List UInt8) (m:Nat),t=pre++r->r.length < m ->
  fix (fG n) m (s,eU r,bA pre,())=fix (wH n) n (s,t,0,())
 | [],pre,m,hp,hm=>by
  have hp:pre=t:=by simpa using hp.symm
  subst hp
  rw [mX (by omega)]
  unfold fG
  simp only [eU]
  rw [dB (by rfl),zDx]
 | e :: r,pre,m,hp,hm=>by
  have hm':r.length+1 < m:=hm
  have hlen:t.length=pre.length+r.length+1:=by rw [hp]; simp; omega
  have:=pK r
  rw [mX (by omega),eU,yDk n _ s e (eU r) pre (by omega) (by omega)]
  exact zVe ht r (pre++[e]) (m - 1) (by rw [hp]; simp) (by omega)
theorem back_eq {t:List UInt8} (ht:t.length <= 1000):yG 2000 (eU t++[36,10])=some (t,0):=by
 have hl:=pK t
 unfold yG
 simp only
 rw [yPa (by simp; omega),dD,dB (by rfl)]
 rw [show fix (fG 2000) 2000 (eU t++[36,10],eU t,[],())=_ from zVe (n:=2000) ht t [] 2000 rfl (by omega)]
 rw [mX (by omega),wH]
 simp only
 rw [dV (by rfl),zVd ht,dD,dV (by simp)]
end Go.Dec
namespace Go.Dec
abbrev R1:List (Bool × Int × Unit):=[(false,(0,()))]
abbrev Lv:lU:=((noA,noA,false,()),108,[],[],0,0,-1,[],false,false,())
abbrev yI:zHp:=(false,[],[Lv],())
abbrev btP (pc n:Int) (P:List UInt8) (e l:Bool):BtD:=(pc,(n,(0,((-1),(P,([],(e,(l,(false,(R1,([],())))))))))))
theorem yLg (n:Nat) (N:Int) (last:Bool):wG n (((0,(0,(0,()))),((0,(0,(0,()))),(false,()))),(false,(0,())),(N,(last,([],()))))=some (true,(false,0,())):=by
 unfold wG yGl
 rw [if_pos ⟨rfl,rfl,rfl⟩]
theorem yLh (n:Int) (P:List UInt8) (e l:Bool) :
  nN 2000 (0,0,0,0,0,0,false,108,[],[],0,0,(-1),[],false,false,1,0,n,0,(-1),P,[],e,l,false,R1,[],false,[],[Lv],true,[],[],()) =
   some (true,1,0,n,0,(-1),P,[],e,l,false,[],false,[],[Lv],true,[],[],R1,()):=by
 have h:∀ m,nN (m+3) (0,0,0,0,0,0,false,108,[],[],0,0,(-1),[],false,false,1,0,n,0,(-1),P,[],e,l,false,R1,[],false,[],[Lv],true,[],[],()) =
   ob (wG (m+3) (((0,(0,(0,()))),((0,(0,(0,()))),(false,()))),(false,(0,())),(n,(l,([],()))))) fun y=>some (y.1,1,0,n,0,(-1),P,[],e,l,false,[],false,[],[Lv],true,[],[],R1.set 0 y.2,()):=fun _=>rfl
 rw [show (2000:Nat)=1997+3 from rfl,h,yLg]
 rfl
theorem yHj {n:Nat} {a u:List UInt8} (h:a.length+u.length <= 1000000):strings_TrimSuffix n (a++u,u)=some a:=by
 have h1:bR n (a++u,u)=some true:=by
  unfold bR
  simp only
  rw [dV (decide_eq_true (by simp <;> omega)),Ea (by simp <;> omega) (by simp <;> omega),aV (by simp <;> omega),show (((a++u).length:Int) - (u.length:Int)).toNat=a.length by simp]
  simp
 unfold strings_TrimSuffix fM
 simp only
 rw [h1,dD,dV rfl,Ea (by simp <;> omega) (by simp <;> omega),aV (by simp <;> omega),show (((a++u).length:Int) - (u.length:Int)).toNat=a.length by simp]
 simp [dD]
theorem yLi {n:Nat} {a:List UInt8} (h:a.length <= 100000):strings_TrimSuffix n (a++[36,10],[10])=some (a++[36]):=by
 have:=yHj (n:=n) (a:=a++[36]) (u:=[10]) (by simp; omega)
 rwa [show a++[36]++[10]=a++[36,10] by simp] at this
theorem yLj (n:Int) (P:List UInt8) (e l:Bool) (h:P.length <= 1000) :
  nP 2000 (0,0,0,0,0,0,false,108,[],[],0,0,(-1),[],false,false,1,1,n,0,(-1),P,[],e,l,false,[],false,[],[Lv],true,[],R1,[],()) =
   some (1,1,n,0,(-1),P,[],e,l,false,[],false,[],[Lv],true,[],R1,[(eU P++[36],(true,()))],()):=by
 have hl:=pK P
 unfold nP
 simp only
 rw [dB (by rfl),zVd h,dD,yLi (by omega),dD]
 rfl
theorem yPb (n:Int) (P:List UInt8) (e l:Bool) (h:P.length <= 1000):pJ 2000 (yI,(true,((1,btP 0 n P e l),[])))=some ((1,btP 1 n P e l),[],[(eU P++[36],(true,()))]):=by
 unfold pJ
 simp only
 rw [dB (by rfl),dB (by rfl),aV (by rfl),show bZ (Ty.dflt aG) [Lv] 0=Lv from rfl]
 simp only [Lv,noA]
 rw [yLh,dD]
 simp only
 rw [show IntKind.wrap .i64 (0+1)=1 from rfl,dV rfl,aV (by rfl),yLj n P e l h,dD]
theorem yPc (n:Int) (P:List UInt8) (e l:Bool):pJ 2000 (yI,(true,((1,btP 1 n P e l),[])))=some ((0,btP 1 n P e l),[],[]):=by
 kernel_rfl
def lists:List mG->List mG
 | []=>[]
 | x :: r=>(eU x.1++[36],(true,())) :: lists r
theorem Ch:∀ l:List mG,(lists l).length=l.length
 | []=>rfl
 | x :: r=>by simp only [lists,List.length_cons,Ch r]
abbrev stP:eZ:=jH yI true
theorem yPd {c:UInt8} {r:List UInt8} (h:(c :: r).length <= 400):strings_Cut 2000 (c :: r,[10])=some ((dQ (c :: r)).1,(dQ (c :: r)).2.1,(dQ (c :: r)).2.2):=by
 unfold strings_Cut
 rw [aV (decide_eq_true (by simp only; omega)),zOa]
theorem zKn:∀ s:List UInt8,(dQ s).1.length+(dQ s).2.1.length <= s.length
 | []=>by simp [dQ]
 | b :: r=>by
  have:=zKn r
  unfold dQ
  split
  ·simp
  ·simp only [List.length_cons]; omega
theorem go:∀ (s:Nat) (d:List UInt8) (out:List mG) (pc n:Int) (P:List UInt8) (e l:Bool) (k:Nat) (st wk:Int),d.length <= s->d.length <= 400->out.length+2 * d.length <= 900->k+3 * d.length+3 <= 1900 ->
  ∃ bt st' wk',fix (iN 2000) (2000 - k) (zRn (k:Int) (mU stP true (0,btP pc n P e l) d out st wk 0))=some (mU stP true (4,bt) [] (out++lists (bU d)) st' wk' 0,0)
 | s,[],out,pc,n,P,e,l,k,st,wk,_,_,_,hk=>by
  refine ⟨btP pc n P e l,w1 st,wk,?_⟩
  simp only [List.length_nil] at hk
  rw [Ie (by omega) (by omega) (by omega) (zVb yI true (btP pc n P e l) out st wk 0) (step_end yI true (btP pc n P e l) out st wk 0)]
  rw [yHg (by omega) (yOy yI true (btP pc n P e l) [] out (w1 st) wk 0)]
  simp [zCp,lists]
 | 0,c :: r,_,_,_,_,_,_,_,_,_,h,_,_,_=>by simp at h
 | s+1,c :: r,out,pc,n,P,e,l,k,st,wk,hs,hd,ho,hk=>by
  have hne:c :: r ≠ []:=by simp
  have hsh:=Kl hne
  have hc:=yPd hd
  have hsp:=Pm hne
  have hln:=zKn (c :: r)
  generalize hu:dQ (c :: r)=u at hc hsp hsh hln
  obtain ⟨t,v,b⟩:=u
  simp only at hc hsp hsh hln
  have hlen:(c :: r).length=r.length+1:=rfl
  have e1:(btP pc n P e l).2.1=n:=rfl
  obtain ⟨bt,st',wk',ih⟩:=go s v ((out++[(eU t++[36],(true,()))])++[]) 1 (w1 n) t b (v == []) (k+3) (w1 (w1 (w1 st))) (w1 (w1 wk)) (by omega) (by omega) (by simp; omega) (by omega)
  refine ⟨bt,st',wk',?_⟩
  rw [Ie (by omega) (by omega) (by omega) (yDi yI true (btP pc n P e l) out st wk 0 hc) (step_take yI true (btP pc n P e l) out st wk 0 hc)]
  rw [show took (btP pc n P e l) t b (v == [])=(1,btP 0 (w1 n) t b (v == [])) from rfl]
  rw [Ie (by omega) (by omega) (by omega) (zRk yI true (btP 0 (w1 n) t b (v == [])) v out _ _ 0) (zRm yI true _ v out _ _ 0 (yPb (w1 n) t b (v == []) (by omega)) (by simp; omega) (by rfl))]
  rw [Ie (by omega) (by omega) (by omega) (zRk yI true (btP 1 (w1 n) t b (v == [])) v _ _ _ 0) (zRm yI true _ v _ _ _ 0 (yPc (w1 n) t b (v == [])) (by simp; omega) (by rfl))]
  rw [show 2000 - k - 1 - 1 - 1=2000 - (k+3) by omega,show (k:Int)+1+1+1=((k+3:Nat):Int) by omega,ih,hsp]
  simp [lists]
theorem yRa (inp:List UInt8):Gx 2000 ([stP],inp,[],false)=some (mU stP false (0,btP 0 0 [] false false) inp [] 0 0 0,0):=by kernel_rfl
theorem yLk {inp:List UInt8} (h:inp.length <= 300):∃ bt st wk,Ho 2000 (mU stP false (0,btP 0 0 [] false false) inp [] 0 0 0,5000)=some (mU stP true (4,bt) [] (lists (bU inp)) st wk 0,0):=by
 obtain ⟨bt,st,wk,hg⟩:=go inp.length inp [] 0 0 [] false false 1 (w1 0) 0 (aJ _) (by omega) (by simp; omega) (by omega)
 refine ⟨bt,st,wk,?_⟩
 have hb:lW 2000 (stP,[])=some []:=by
  unfold lW
  exact if_pos rfl
 show fix (iN 2000) 2000 (zRn 0 (mU stP false (0,btP 0 0 [] false false) inp [] 0 0 0))=_
 rw [Ie (by omega) (by omega) (by omega) (yDh yI true (btP 0 0 [] false false) inp [] 0 0 0) (yAe yI true (btP 0 0 [] false false) inp [] 0 0 0 hb)]
 exact hg
end Go.Dec
namespace Go.Dec
theorem yLl {line inp s:List UInt8} {scr:zHp} {q:Bool} {b:BkD} {bt:BtD} {out:List mG} {st wk hd:Int} (hp:lV 2000 (line,[])=some ([jH scr q],0,0)) (hn:Gx 2000 ([jH scr q],inp,[],false)=some (mU (jH scr q) false b inp [] 0 0 0,0))
  (hr:Ho 2000 (mU (jH scr q) false b inp [] 0 0 0,5000)=some (mU (jH scr q) true (4,bt) [] out st wk hd,0)) (hb:uE 2000 out=some s):Hq 2000 (line,inp)=some (s,true):=by
 unfold Hq Kc iT
 simp only
 rw [hp,dD,dB (by rfl)]
 unfold Al
 simp only
 rw [hn,dD,dB (by rfl),hr,dD]
 simp only
 rw [hb,dD]
 simp only [dD]
 rw [dB (by rfl)]
 rfl
theorem zKo:∀ l:List mG,jI (lists l) <= 4 * jI l+2 * l.length
 | []=>by simp [lists,jI]
 | x :: r=>by
  have:=zKo r
  have:=pK x.1
  simp only [lists,jI,List.length_append,List.length_cons,List.length_nil]
  omega
theorem zKp:∀ (l:List mG),jI l <= (joinL l).length+l.length
 | []=>by simp [jI]
 | e :: r=>by
  have:=zKp r
  simp only [jI,joinL,List.flatMap_cons,List.length_append,zLp,List.length_cons] at *
  omega
theorem Zm:∀ (t w r:List UInt8),(10:UInt8) ∉ t->iK w (t++10 :: r)=(w++t,(true,())) :: bU r
 | [],w,r,_=>by
  simp only [List.nil_append]
  unfold iK
  rw [if_pos rfl]
  simp [bU]
 | c :: t,w,r,h=>by
  simp only [List.mem_cons,not_or] at h
  simp only [List.cons_append]
  unfold iK
  rw [if_neg (fun e=>h.1 e.symm),Zm t (w++[c]) r h.2]
  simp
theorem Zn:∀ l:List mG,bU (jQ [] (lists l))=lists l
 | []=>rfl
 | x :: r=>by
  have h:=Zm (eU x.1++[36]) [] (jQ [] (lists r)) (by
   simp only [List.mem_append,not_or]
   exact ⟨zRo x.1,by simp⟩)
  have e:jQ [] (lists (x :: r))=(eU x.1++[36])++10 :: jQ [] (lists r):=by simp [lists,jQ]
  rw [e]
  unfold bU
  rw [h,Zn r]
  rfl
theorem zVf {l:List mG} (hl:l.length <= 400) (hs:∀ x ∈ l,x.1.length <= 1000):∀ (r pre:List mG) (m:Nat),l=pre++r->r.length < m ->
  fix (oH 2000) m (l,lists l,(pre.length:Int),())=some true
 | [],pre,m,hp,hm=>by
  have hp:pre=l:=by simpa using hp.symm
  subst hp
  rw [mX (by omega),oH]
  simp only
  rw [dB (by simp)]
 | e :: r,pre,m,hp,hm=>by
  have hlen:l.length=pre.length+r.length+1:=by rw [hp]; simp; omega
  have hm:r.length+1 < m:=by simpa using hm
  have ih:=zVf hl hs r (pre++[e]) (m - 1) (by rw [hp]; simp) (by omega)
  have he:=hs e (by rw [hp]; simp)
  have hll:=pK e.1
  rw [show ((pre++[e]).length:Int)=(pre.length:Int)+1 by simp] at ih
  have happ:∀ a b:List mG,lists (a++b)=lists a++lists b:=by
   intro a
   induction a with
   | nil=>intro b; rfl
   | cons x a ih=>intro b; simp [lists,ih]
  have hp2:lists l=lists pre++(eU e.1++[36],(true,())) :: lists r:=by rw [hp,happ]; rfl
  have hg:bZ (Ty.dflt aI) (lists l) (pre.length:Int)=(eU e.1++[36],(true,())):=by
   have:=Jq (d:=Ty.dflt aI) hp2
   rwa [Ch] at this
  rw [mX (by omega),oH]
  simp only
  rw [dV (decide_eq_true (by omega)),aV (zXc (by rw [Ch]; omega)),hg]
  simp only
  rw [aV (decide_eq_true (by simp [kD]; omega)),show eU e.1++[36]++[10]=eU e.1++[36,10] by simp,back_eq he,dD,dB (by rfl),aV (zXc (by omega)),Jq hp,dB (by simp),Ea (by omega) (by omega)]
  exact ih
theorem Yh (inp:List UInt8) (hw:inp.length < 1048576):Kz 2000 inp=some true:=by
 unfold Kz
 simp only
 rw [show gJ 2000 inp=some (bU inp) from by unfold gJ; rw [aV (decide_eq_true (by omega))],dD]
 by_cases h:150 < inp.length
 ·rw [dV (decide_eq_true (by omega))]; rfl
 rw [dB (decide_eq_false (by omega)),show showntop 2000 ()=some true from rfl,dD,dB (by rfl)]
 have h2:=Eb inp []
 have h3:=zKp (bU inp)
 rw [Un] at h3
 have hlen:(bU inp).length <= 151:=by simp only [bU]; omega
 have h4:=zKo (bU inp)
 obtain ⟨bt,st,wk,hr⟩:=yLk (inp:=inp) (by omega)
 have hp:lV 2000 ([115,101,100,32,45,110,32,39,108,32,48,39],[])=some ([stP],0,0):=by
  unfold lV
  exact if_pos rfl
 have hb:(jQ [] (lists (bU inp))).length <= 10000:=by
  have:∀ l:List mG,(jQ [] (lists l)).length <= jI (lists l):=by
   intro l
   induction l with
   | nil=>simp [lists,jQ,jI]
   | cons x r ih=>simp only [lists,jQ,jI,if_true,List.nil_append,List.length_append,List.length_cons,List.length_nil] at *; omega
  have:=this (bU inp)
  omega
 rw [yLl hp (yRa inp) hr (yLc (by rw [Ch]; omega) (by omega) (by omega)),dD]
 rw [show gJ 2000 (jQ [] (lists (bU inp)))=some (lists (bU inp)) from by unfold gJ; rw [aV (decide_eq_true (by omega)),Zn],dD]
 rw [dB (by rfl),dB (by rw [Ch]; simp)]
 have hall:∀ x ∈ bU inp,x.1.length <= 1000:=by
  have:∀ (l:List mG) x,x ∈ l->x.1.length <= jI l:=by
   intro l
   induction l with
   | nil=>intro x hx; cases hx
   | cons y r ih =>
    intro x hx
    simp only [jI]
    cases hx with
    | head=>omega
    | tail _ hx=>have:=ih x hx; omega
  intro x hx
  have:=this _ x hx
  omega
 exact zVf (by omega) hall (bU inp) [] 2000 rfl (by omega)
end Go.Dec
