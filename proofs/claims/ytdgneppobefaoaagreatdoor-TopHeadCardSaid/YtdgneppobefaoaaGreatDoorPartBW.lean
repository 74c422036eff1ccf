/- Part of a proof over this seat: a library of my own, and what it says of this seat. No statement is proved here. -/
import Derived.Test.YtdgneppobefaoaaGreatDoorPartBU
import Derived.Test.YtdgneppobefaoaaGreatDoorPartBA
import Derived.KernelRfl
import Derived.Test.YtdgneppobefaoaaGreatDoorPartAK
namespace Go.Dec
abbrev nQ:Type:=List UInt8 × Bool × Unit
abbrev BtD:Type:=Int × Int × Int × Int × List UInt8 × List UInt8 × Bool × Bool × Bool × List (Bool × Int × Unit) × List nQ × Unit
abbrev BkD:Type:=Int × BtD
abbrev gJ (scr:zBy) (q:Bool):eX:=(scr,(q,([],(false,()))))
abbrev iY (g:eX) (bg:Bool) (b:BkD) (d:List UInt8) (out:List nQ) (st wk hd:Int):bW [iI] :=
 ([g],([false],(false,([b],([bg],([[]],([(d,(false,(true,())))],(out,([],([0],(st,(wk,(hd,())))))))))))))
section
variable (scr:zBy) (q:Bool) (bt:BtD) (d:List UInt8) (out:List nQ) (st wk hd:Int)
theorem zQn:iR 2000 (iY (gJ scr q) false (0,bt) d out st wk hd)=some 0:=by kernel_rfl
theorem qN:iR 2000 (iY (gJ scr q) true (1,bt) d out st wk hd)=some 0:=by kernel_rfl
theorem zQo:iR 2000 (iY (gJ scr q) true (4,bt) d out st wk hd)=some (-1):=by kernel_rfl
theorem zIg:iR 2000 (iY (gJ scr q) true (0,bt) [] out st wk hd)=some 0:=by kernel_rfl
theorem yMm (l:List nQ):kH 2000 l=some l:=by
 unfold kH
 exact aS (by simp) _
theorem Xz (g:eX) (bg:Bool) (b:BkD):nM 2000 ([g],[false],false,[b],[bg],[[]],[(d,(false,(true,())))],out,[],[0],st,wk,hd,()) =
  some ([g],[false],false,out,[],st,wk,hd,[b],[bg],[[]],[(d,(false,(true,())))],[0],()):=by
 have h:nM 2000 ([g],[false],false,[b],[bg],[[]],[(d,(false,(true,())))],out,[],[0],st,wk,hd,()) =
  ob (kH 2000 out) fun y=>some ([g],[false],false,y,[],st,wk,hd,[b],[bg],[[]],[(d,(false,(true,())))],[0],()):=by kernel_rfl
 rw [h,yMm,dH]
theorem zQp {c:UInt8} {r:List UInt8} {t u:List UInt8} {e:Bool} (h:strings_Cut 2000 (c :: r,[10])=some (t,u,e)):qQ 2000 (c :: r,(false,(true,())))=some ((u,(false,(true,()))),(t,(e,())),(u == []),true):=by
 unfold qQ
 simp only
 rw [h,dH]
 cases u with
 | nil=>rfl
 | cons x y=>rfl
theorem zQq {c:UInt8} {r:List UInt8} {t u:List UInt8} {e:Bool} (h:strings_Cut 2000 (c :: r,[10])=some (t,u,e)):iR 2000 (iY (gJ scr q) true (0,bt) (c :: r) out st wk hd)=some 0:=by
 have h1:rU 2000 (0,[gJ scr q],[false],false,[(0,bt)],[true],[[]],[(c :: r,(false,(true,())))],out,[],[0],st,wk,hd,()) =
   ob (wC 2000 (c :: r,(false,(true,())))) fun y=>br y.2.2 (some (true,[gJ scr q],[false],false,[(0,bt)],[true],[[]],[(c :: r,(false,(true,())))],out,[],[0],st,wk,hd,())) (ob (Hw 2000 (c :: r,(false,(true,())))) fun z=>some (z,[gJ scr q],[false],false,[(0,bt)],[true],[[]],[(c :: r,(false,(true,())))],out,[],[0],st,wk,hd,())):=by kernel_rfl
 have h2:wC 2000 (c :: r,(false,(true,())))=some ((t,(e,())),(u == []),true):=by
  unfold wC
  simp only
  rw [zQp h,dH]
 rw [h2,dH,kK rfl] at h1
 unfold iR
 simp only
 rw [Bh (by omega),Mr]
 simp only
 rw [kK (by rfl)]
 rw [show IntKind.wrap .i64 (([gJ scr q].length:Int) - 1)=0 from rfl,h1,dH,kK rfl]
theorem zGa (hb:nH 2000 (gJ scr q,[])=some []):iE 2000 (iY (gJ scr q) false (0,bt) d out st wk hd)=some (iY (gJ scr q) true (0,bt) d out (IntKind.wrap .i64 (st+1)) wk hd):=by
 unfold iE
 simp only
 rw [zQn,dH,bM (by rfl),Xz,dH]
 rw [aS (by rfl),aS (by rfl),kK (by rfl)]
 unfold oU
 simp only
 rw [aS (by rfl),aS (by rfl),aS (by rfl),bM (by rfl)]
 rw [show bV (Ty.dflt aM) [gJ scr q] 0=gJ scr q from rfl,hb,dH,bM (by rfl),dH]
 rfl
end
end Go.Dec
namespace Go.Dec
theorem Mw {α β:Type} {x:Option α} {y:α} {k:α->Option β} {r:Option β} (h:x=some y) (hk:k y=r):ob x k=r:=by rw [h,dH]; exact hk
theorem ySp {α:Type} {c:Bool} {x y r:Option α} (h:c=false) (hy:y=r):br c x y=r:=by rw [bM h]; exact hy
theorem yPz {α:Type} {c:Bool} {x y r:Option α} (h:c=true) (hy:x=r):br c x y=r:=by rw [kK h]; exact hy
section
variable (scr:zBy) (q:Bool) (bt:BtD) (d:List UInt8) (out:List nQ) (st wk hd:Int)
abbrev w1 (n:Int):Int:=IntKind.wrap .i64 (n+1)
theorem zUu (g:eX) (b:BkD) (o:List nQ) (ho:out.length+o.length <= 1000):lY 2000 (0,o,[g],[false],false,out,[],st,wk,hd,[b],[true],[[]],[(d,(false,(true,())))],[0],()) =
  some ([g],[false],false,out++o,[],st,wk,hd,[b],[true],[[]],[(d,(false,(true,())))],[0],()):=by
 unfold lY
 simp only
 rw [kK (by rfl),aS (Nat.ble_eq_true_of_le (by unfold room; omega))]
theorem run_eq {b':BkD} {o:List nQ} (h:fD 2000 (scr,(q,((1,bt),[])))=some (b',[],o)) (ho:out.length+o.length <= 1000) (h4:(b'.1 == 4)=false) :
  iM 2000 (0,[gJ scr q],[false],false,out,[],st,wk,hd,[(1,bt)],[true],[[]],[(d,(false,(true,())))],[0],()) =
  some ([gJ scr q],[false],false,out++o,[],st,w1 wk,hd,[b'],[true],[[]],[(d,(false,(true,())))],[0],()):=by
 unfold iM
 simp only
 rw [aS (by rfl),aS (by rfl),aS (by rfl)]
 refine Mw h ?_
 dsimp only
 rw [aS (by rfl),aS (by rfl)]
 refine Mw (zUu d out st _ hd (gJ scr q) b' o ho) ?_
 dsimp only
 unfold jK
 simp only
 rw [aS (by rfl),aS (by rfl),dH]
 exact ySp h4 rfl
theorem pJ {b':BkD} {o:List nQ} (h:fD 2000 (scr,(q,((1,bt),[])))=some (b',[],o)) (ho:out.length+o.length <= 1000) (h4:(b'.1 == 4)=false) :
  iE 2000 (iY (gJ scr q) true (1,bt) d out st wk hd)=some (iY (gJ scr q) true b' d (out++o) (w1 st) (w1 wk) hd):=by
 unfold iE
 simp only
 rw [qN,dH,bM (by rfl),Xz,dH]
 rw [aS (by rfl),aS (by rfl),bM (by rfl),aS (by rfl),aS (by rfl),kK (by rfl)]
 rw [run_eq scr q bt d out _ wk hd h ho h4,dH]
theorem yQa (g:eX) (b:BkD) (code:Int) (hc:code=0):nY 2000 (0,code,[g],[false],false,out,[],st,wk,hd,[b],[true],[[]],[(d,(false,(true,())))],[0],()) =
  some ([g],[false],false,out,[],st,wk,hd,[(4,b.2)],[true],[[]],[([],(false,(true,())))],[0],()):=by
 subst hc
 kernel_rfl
theorem yIc {bt':BtD} {o:List nQ} (h:fD 2000 (scr,(q,((1,bt),[])))=some ((4,bt'),[],o)) (hc:bt'.2.2.1=0) (ho:out.length+o.length <= 1000) :
  iM 2000 (0,[gJ scr q],[false],false,out,[],st,wk,hd,[(1,bt)],[true],[[]],[(d,(false,(true,())))],[0],()) =
  some ([gJ scr q],[false],false,out++o,[],st,w1 wk,hd,[(4,bt')],[true],[[]],[([],(false,(true,())))],[0],()):=by
 unfold iM
 simp only
 rw [aS (by rfl),aS (by rfl),aS (by rfl)]
 refine Mw h ?_
 dsimp only
 rw [aS (by rfl),aS (by rfl)]
 refine Mw (zUu d out st _ hd (gJ scr q) (4,bt') o ho) ?_
 dsimp only
 unfold jK
 simp only
 rw [aS (by rfl),aS (by rfl),dH]
 refine yPz (by rfl) ?_
 exact Mw (yQa d (out++o) st _ hd (gJ scr q) (4,bt') bt'.2.2.1 hc) rfl
theorem yDb {bt':BtD} {o:List nQ} (h:fD 2000 (scr,(q,((1,bt),[])))=some ((4,bt'),[],o)) (hc:bt'.2.2.1=0) (ho:out.length+o.length <= 1000) :
  iE 2000 (iY (gJ scr q) true (1,bt) d out st wk hd)=some (iY (gJ scr q) true (4,bt') [] (out++o) (w1 st) (w1 wk) hd):=by
 unfold iE
 simp only
 rw [qN,dH,bM (by rfl),Xz,dH]
 rw [aS (by rfl),aS (by rfl),bM (by rfl),aS (by rfl),aS (by rfl),kK (by rfl)]
 rw [yIc scr q bt d out _ wk hd h hc ho,dH]
abbrev took (bt:BtD) (t:List UInt8) (e l:Bool):BkD:=(1,(0,(w1 bt.2.1,(bt.2.2.1,(bt.2.2.2.1,(t,(bt.2.2.2.2.2.1,(e,(l,bt.2.2.2.2.2.2.2.2)))))))))
theorem step_take {c:UInt8} {r t u:List UInt8} {e:Bool} (h:strings_Cut 2000 (c :: r,[10])=some (t,u,e)) :
  iE 2000 (iY (gJ scr q) true (0,bt) (c :: r) out st wk hd)=some (iY (gJ scr q) true (took bt t e (u == [])) u out (w1 st) wk hd):=by
 unfold iE
 simp only
 rw [zQq scr q bt out st wk hd h,dH,bM (by rfl),Xz,dH]
 rw [aS (by rfl),aS (by rfl),bM (by rfl),aS (by rfl),aS (by rfl),bM (by rfl)]
 unfold pV
 simp only
 rw [aS (by rfl),kK (by rfl),aS (by rfl),aS (by rfl)]
 rw [show qQ 2000 (([((c :: r:List UInt8),(false,(true,())))].getD (0+(0:Int).toNat) (Ty.dflt aY)).1,(([((c :: r:List UInt8),(false,(true,())))].getD (0+(0:Int).toNat) (Ty.dflt aY)).2.1,(([((c :: r:List UInt8),(false,(true,())))].getD (0+(0:Int).toNat) (Ty.dflt aY)).2.2.1,())))=_ from zQp h,dH]
 rw [aS (by rfl),aS (by rfl),dH,kK (by rfl),aS (by rfl),aS (by rfl)]
 unfold Ms
 simp only
 rw [kK (by rfl),dH,aS (by rfl),aS (by rfl)]
 rfl
theorem step_end:iE 2000 (iY (gJ scr q) true (0,bt) [] out st wk hd)=some (iY (gJ scr q) true (4,bt) [] out (w1 st) wk hd):=by
 unfold iE
 simp only
 rw [zIg,dH,bM (by rfl),Xz,dH]
 kernel_rfl
end
abbrev zCs (k:Int) (m:bW [iI]):=((5000:Int),k,m.1,m.2.1,m.2.2.1,m.2.2.2.1,m.2.2.2.2.1,m.2.2.2.2.2.1,m.2.2.2.2.2.2.1,m.2.2.2.2.2.2.2.1,m.2.2.2.2.2.2.2.2.1,m.2.2.2.2.2.2.2.2.2.1,m.2.2.2.2.2.2.2.2.2.2.1,m.2.2.2.2.2.2.2.2.2.2.2.1,m.2.2.2.2.2.2.2.2.2.2.2.2.1,([]:List eX),([]:List Bool),false,([]:List Bool),([]:List (List nQ)),([]:List (List UInt8 × Bool × Bool × Unit)),([]:List Ws),([]:List Int),(0:Int),(0:Int),(0:Int),([]:List BkD),([]:List nQ),())
theorem gP {m m':bW [iI]} {k:Int} {f:Nat} (hf:0 < f) (hk:k < 5000) (h0:0 <= k) (hn:iR 2000 m=some 0) (hs:iE 2000 m=some m') :
  fix (fV 2000) f (zCs k m)=fix (fV 2000) (f - 1) (zCs (k+1) m'):=by
 rw [Bh hf,fV]
 dsimp only
 refine Mw hn ?_
 rw [kK (by rfl),bM (decide_eq_false (by omega))]
 refine Mw hs ?_
 rw [Lv (by omega) (by omega)]
theorem zCt {m:bW [iI]} {k:Int} {f:Nat} (hf:0 < f) (hn:iR 2000 m=some (-1)):fix (fV 2000) f (zCs k m)=some (m,0):=by
 rw [Bh hf,fV]
 dsimp only
 refine Mw hn ?_
 rw [bM (by rfl)]
end Go.Dec
namespace Go.Dec
abbrev Zd:Type:=List UInt8 × Bool × Unit
def vD:List UInt8->List Zd->List UInt8
 | _,[]=>[]
 | g,e :: r=>g++e.1++(if e.2.1 then [10]++vD [] r else vD [10] r)
def gZ:List Zd->Nat
 | []=>0
 | e :: r=>e.1.length+1+gZ r
theorem Kl:∀ (a b:List Zd),gZ (a++b)=gZ a+gZ b
 | [],b=>by simp [gZ]
 | e :: a,b=>by simp only [List.cons_append,gZ,Kl a b]; omega
theorem zZt {n:Nat} {s:List UInt8} {a:List UInt8} (h:a.length+s.length <= 1000000):dI n (s,bD a,())=some ((s.length:Int),false,bD (a++s),()):=by
 unfold dI lT
 simp only [dH]
 rw [aS (by simp only [Wq]; simp [room]; omega),Mh]
theorem yId {n:Nat} {l:List Zd} (hl:l.length <= 1000) (hs:gZ l <= 10000):∀ (r pre:List Zd) (g a:List UInt8) (m:Nat),l=pre++r->r.length < m->a.length+g.length <= gZ pre ->
  fix (nO n) m (g,l,(l.length:Int),(pre.length:Int),bD a,())=some (a++vD g r):=by
 intro r
 induction r with
 | nil =>
  intro pre g a m hp hm ha
  have hp:pre=l:=by simpa using hp.symm
  subst hp
  rw [Bh (by omega),nO]
  simp only
  rw [bM (by simp),zAd]
  simp [vD]
 | cons e r ih =>
  intro pre g a m hp hm ha
  have hm':r.length+1 < m:=hm
  have hlen:l.length=pre.length+r.length+1:=by rw [hp]; simp; omega
  have hsum:gZ l=gZ pre+(e.1.length+1+gZ r):=by rw [hp,Kl]; rfl
  have hsp:gZ (pre++[e])=gZ pre+(e.1.length+1):=by rw [Kl]; simp [gZ]
  have hi:∀ (g' a':List UInt8),a'.length+g'.length <= gZ (pre++[e])->fix (nO n) (m - 1) (g',l,(l.length:Int),(pre.length:Int)+1,bD a',())=some (a'++vD g' r):=fun g' a' h1=>by
   have:=ih (pre++[e]) g' a' (m - 1) (by rw [hp]; simp) (by omega) h1
   rwa [show ((pre++[e]).length:Int)=(pre.length:Int)+1 by simp] at this
  rw [Bh (by omega),nO]
  simp only
  rw [kK (decide_eq_true (by omega)),aS (yOb (by omega)),zJn hp,aS (decide_eq_true (by simp [jR]; omega)),zZt (by simp; omega)]
  simp only [dH]
  cases he:e.2.1 with
  | true =>
   simp only [yNz]
   rw [zZt (by simp; omega)]
   simp only [dH]
   rw [Lv (by omega) (by omega),hi _ _ (by simp; omega)]
   simp [vD,he]
  | false =>
   simp only [yOa]
   rw [Lv (by omega) (by omega),hi _ _ (by simp; omega)]
   simp [vD,he]
theorem zUv {n:Nat} {l:List Zd} (hl:l.length <= 1000) (hs:gZ l <= 10000) (hn:1500 <= n):wD n l=some (vD [] l):=by
 unfold wD
 exact yId (n:=n) hl hs l [] [] [] n rfl (by omega) (by simp [gZ])
end Go.Dec
namespace Go.Dec
theorem wE {α β:Type} {F G:α->Option β} {x:α} {y:β} (h:F x=some y):orF F G x=some y:=by unfold orF; rw [h]
theorem wF {α β:Type} {F G:α->Option β} {x:α} {r:Option β} (h:F x=none) (hg:G x=r):orF F G x=r:=by unfold orF; rw [h]; exact hg
abbrev R1:List (Bool × Int × Unit):=[(false,(0,()))]
abbrev R5 (o:Bool):List (Bool × Int × Unit):=[(o,(0,())),(false,(0,())),(false,(0,())),(false,(0,())),(false,(0,()))]
abbrev fT (a b:yI) (not:Bool) (op to:Int):kD:=((a,b,not,()),op,[],[],0,to,-1,[],false,false,())
abbrev csQ (k:Nat):List kD:=[fT (bH k) (noA) false 113 0]
abbrev pK (k:Nat):zBy:=(false,[],csQ k,())
abbrev csH (k:Nat):List kD:=[fT (bH k) (dB) true 123 3,fT (noA) (noA) false 112 0,fT (noA) (noA) false 100 0,fT (noA) (noA) false 125 0,fT (bH k) (noA) true 100 0]
abbrev eU (k:Nat):zBy:=(false,[],csH k,())
abbrev btQ (pc n:Int) (P:List UInt8) (e l:Bool):BtD:=(pc,(n,(0,((-1),(P,([],(e,(l,(false,(R1,([],())))))))))))
abbrev btH (o:Bool) (pc n:Int) (P:List UInt8) (e l:Bool):BtD:=(pc,(n,(0,((-1),(P,([],(e,(l,(false,(R5 o,([],())))))))))))
section
variable {k:Nat} (hk:is9 k) (n N:Int) (P:List UInt8) (e l o:Bool) (f:Nat)
theorem zUw:kE f ((noA,noA,false,()),(false,(0,())),(N,(l,([],()))))=some (true,(false,0,())) :=
 wE (if_pos ⟨rfl,rfl,rfl⟩)
include hk in
theorem zUx (not:Bool):kE f ((bH k,noA,not,()),(false,(0,())),(N,(l,([],()))))=some (xor (decide (N=k)) not,(false,0,())) :=
 wF (if_neg (by rintro ⟨h,_⟩; simp at h)) (wE (if_pos ⟨⟨k,hk,not,rfl⟩,rfl,rfl⟩))
include hk in
theorem yMn:kE f ((bH k,dB,true,()),(false,(0,())),(N,(l,([],()))))=some (!decide (N=k),(decide (N=k) && !l,0,())) :=
 wF (if_neg (by rintro ⟨h,_⟩; simp at h)) (wF (if_neg (by rintro ⟨⟨_,_,_,h⟩,_⟩; simp at h)) (wE (if_pos ⟨⟨k,hk,rfl⟩,rfl,rfl⟩)))
include hk in
theorem yMo:kE f ((bH k,dB,true,()),(true,(0,())),(N,(l,([],()))))=some (false,(!l,0,())) :=
 wF (if_neg (by rintro ⟨h,_⟩; simp at h)) (wF (if_neg (by rintro ⟨⟨_,_,_,h⟩,_⟩; simp at h)) (wF (if_neg (by rintro ⟨_,h,_⟩; simp at h)) (if_pos ⟨⟨k,hk,rfl⟩,rfl,rfl⟩)))
include hk in
theorem Ze:bX 2000 (1,↑k,0,0,0,0,false,113,[],[],0,0,(-1),[],false,false,1,0,n,0,(-1),P,[],e,l,false,R1,[],false,[],(csQ k),false,[],[],())=some (xor (decide (n=k)) false,1,0,n,0,(-1),P,[],e,l,false,[],false,[],(csQ k),false,[],[],R1,()):=by
 have h:∀ m,bX (m+3) (1,↑k,0,0,0,0,false,113,[],[],0,0,(-1),[],false,false,1,0,n,0,(-1),P,[],e,l,false,R1,[],false,[],(csQ k),false,[],[],())=ob (kE (m+3) ((bH k,noA,false,()),(false,(0,())),(n,(l,([],()))))) fun y=>some (y.1,1,0,n,0,(-1),P,[],e,l,false,[],false,[],(csQ k),false,[],[],R1.set 0 y.2,()):=fun _=>rfl
 rw [show (2000:Nat)=1997+3 from rfl,h,zUx hk]
 rfl
include hk in
theorem yVa (h:n ≠ k):fD 2000 (pK k,(false,((1,btQ 0 n P e l),[])))=some ((1,btQ 1 n P e l),[],[]):=by
 refine wE ?_
 unfold dQ dY
 simp only
 rw [bM (by rfl),bM (by rfl),aS (by rfl),show bV (Ty.dflt aF) (csQ k) 0=fT (bH k) (noA) false 113 0 from rfl]
 simp only [fT,noA,bH,dB]
 rw [Ze hk,dH,decide_eq_false h]
 rfl
theorem ySq:fD 2000 (pK k,(false,((1,btQ 1 n P e l),[])))=some ((0,btQ 1 n P e l),[],[(P,(e,()))]):=wE (by kernel_rfl)
include hk in
theorem yVb (h:n=k):dQ 112 2000 (pK k,(false,((1,btQ 0 n P e l),[])))=none:=by
 unfold dQ dY
 simp only
 rw [bM (by rfl),bM (by rfl),aS (by rfl),show bV (Ty.dflt aF) (csQ k) 0=fT (bH k) (noA) false 113 0 from rfl]
 simp only [fT,noA,bH,dB]
 rw [Ze hk,dH,decide_eq_true h]
 rfl
include hk in
theorem yVc (h:n=k):jC 100 2000 (pK k,(false,((1,btQ 0 n P e l),[])))=none:=by
 unfold jC dY
 simp only
 rw [bM (by rfl),bM (by rfl),aS (by rfl),show bV (Ty.dflt aF) (csQ k) 0=fT (bH k) (noA) false 113 0 from rfl]
 simp only [fT,noA,bH,dB]
 rw [Ze hk,dH,decide_eq_true h]
 rfl
include hk in
theorem yVd (h:n=k):tK 113 2000 (pK k,(false,((1,btQ 0 n P e l),[])))=some ((4,btQ 1 n P e l),[],[(P,(e,()))]):=by
 unfold tK dY
 simp only
 rw [bM (by rfl),bM (by rfl),aS (by rfl),show bV (Ty.dflt aF) (csQ k) 0=fT (bH k) (noA) false 113 0 from rfl]
 simp only [fT,noA,bH,dB]
 rw [Ze hk,dH,decide_eq_true h]
 rfl
include hk in
theorem yVe (h:n=k):fD 2000 (pK k,(false,((1,btQ 0 n P e l),[])))=some ((4,btQ 1 n P e l),[],[(P,(e,()))]) :=
 wF (yVb hk n P e l h) (wF (yVc hk n P e l h) (wE (yVd hk n P e l h)))
include hk in
theorem Km:bX 2000 (1,↑k,0,2,0,0,true,123,[],[],0,3,(-1),[],false,false,1,0,n,0,(-1),P,[],e,l,false,(R5 false),[],false,[],(csH k),false,[],[],())=some (!decide (n=k),1,0,n,0,(-1),P,[],e,l,false,[],false,[],(csH k),false,[],[],(R5 (decide (n=k) && !l)),()):=by
 have h:∀ m,bX (m+3) (1,↑k,0,2,0,0,true,123,[],[],0,3,(-1),[],false,false,1,0,n,0,(-1),P,[],e,l,false,(R5 false),[],false,[],(csH k),false,[],[],())=ob (kE (m+3) ((bH k,dB,true,()),(false,(0,())),(n,(l,([],()))))) fun y=>some (y.1,1,0,n,0,(-1),P,[],e,l,false,[],false,[],(csH k),false,[],[],(R5 false).set 0 y.2,()):=fun _=>rfl
 rw [show (2000:Nat)=1997+3 from rfl,h,yMn hk]
 rfl
include hk in
theorem yDc:bX 2000 (1,↑k,0,2,0,0,true,123,[],[],0,3,(-1),[],false,false,1,0,n,0,(-1),P,[],e,l,false,(R5 true),[],false,[],(csH k),false,[],[],())=some (false,1,0,n,0,(-1),P,[],e,l,false,[],false,[],(csH k),false,[],[],(R5 (!l)),()):=by
 have h:∀ m,bX (m+3) (1,↑k,0,2,0,0,true,123,[],[],0,3,(-1),[],false,false,1,0,n,0,(-1),P,[],e,l,false,(R5 true),[],false,[],(csH k),false,[],[],())=ob (kE (m+3) ((bH k,dB,true,()),(true,(0,())),(n,(l,([],()))))) fun y=>some (y.1,1,0,n,0,(-1),P,[],e,l,false,[],false,[],(csH k),false,[],[],(R5 true).set 0 y.2,()):=fun _=>rfl
 rw [show (2000:Nat)=1997+3 from rfl,h,yMo hk]
 rfl
theorem yIe:bX 2000 (0,0,0,0,0,0,false,112,[],[],0,0,(-1),[],false,false,1,1,n,0,(-1),P,[],e,l,false,(R5 o),[],false,[],(csH k),false,[],[],())=some (true,1,1,n,0,(-1),P,[],e,l,false,[],false,[],(csH k),false,[],[],(R5 o),()):=by
 have h:∀ m,bX (m+3) (0,0,0,0,0,0,false,112,[],[],0,0,(-1),[],false,false,1,1,n,0,(-1),P,[],e,l,false,(R5 o),[],false,[],(csH k),false,[],[],())=ob (kE (m+3) ((noA,noA,false,()),(false,(0,())),(n,(l,([],()))))) fun y=>some (y.1,1,1,n,0,(-1),P,[],e,l,false,[],false,[],(csH k),false,[],[],(R5 o).set 1 y.2,()):=fun _=>rfl
 rw [show (2000:Nat)=1997+3 from rfl,h,zUw]
 rfl
theorem zQr:bX 2000 (0,0,0,0,0,0,false,100,[],[],0,0,(-1),[],false,false,1,2,n,0,(-1),P,[],e,l,false,(R5 o),[],false,[],(csH k),false,[],[],())=some (true,1,2,n,0,(-1),P,[],e,l,false,[],false,[],(csH k),false,[],[],(R5 o),()):=by
 have h:∀ m,bX (m+3) (0,0,0,0,0,0,false,100,[],[],0,0,(-1),[],false,false,1,2,n,0,(-1),P,[],e,l,false,(R5 o),[],false,[],(csH k),false,[],[],())=ob (kE (m+3) ((noA,noA,false,()),(false,(0,())),(n,(l,([],()))))) fun y=>some (y.1,1,2,n,0,(-1),P,[],e,l,false,[],false,[],(csH k),false,[],[],(R5 o).set 2 y.2,()):=fun _=>rfl
 rw [show (2000:Nat)=1997+3 from rfl,h,zUw]
 rfl
include hk in
theorem zCu:bX 2000 (1,↑k,0,0,0,0,true,100,[],[],0,0,(-1),[],false,false,1,4,n,0,(-1),P,[],e,l,false,(R5 o),[],false,[],(csH k),false,[],[],())=some (xor (decide (n=k)) true,1,4,n,0,(-1),P,[],e,l,false,[],false,[],(csH k),false,[],[],(R5 o),()):=by
 have h:∀ m,bX (m+3) (1,↑k,0,0,0,0,true,100,[],[],0,0,(-1),[],false,false,1,4,n,0,(-1),P,[],e,l,false,(R5 o),[],false,[],(csH k),false,[],[],())=ob (kE (m+3) ((bH k,noA,true,()),(false,(0,())),(n,(l,([],()))))) fun y=>some (y.1,1,4,n,0,(-1),P,[],e,l,false,[],false,[],(csH k),false,[],[],(R5 o).set 4 y.2,()):=fun _=>rfl
 rw [show (2000:Nat)=1997+3 from rfl,h,zUx hk]
 rfl
include hk in
theorem yVf (h:n ≠ k):dQ 112 2000 (eU k,(false,((1,btH false 0 n P e l),[])))=none:=by
 unfold dQ dY
 simp only
 rw [bM (by rfl),bM (by rfl),aS (by rfl),show bV (Ty.dflt aF) (csH k) 0=fT (bH k) (dB) true 123 3 from rfl]
 simp only [fT,noA,bH,dB]
 rw [Km hk,dH,decide_eq_false h]
 rfl
include hk in
theorem yVg (h:n ≠ k):jC 100 2000 (eU k,(false,((1,btH false 0 n P e l),[])))=none:=by
 unfold jC dY
 simp only
 rw [bM (by rfl),bM (by rfl),aS (by rfl),show bV (Ty.dflt aF) (csH k) 0=fT (bH k) (dB) true 123 3 from rfl]
 simp only [fT,noA,bH,dB]
 rw [Km hk,dH,decide_eq_false h]
 rfl
include hk in
theorem yVh (h:n ≠ k):tK 113 2000 (eU k,(false,((1,btH false 0 n P e l),[])))=none:=by
 unfold tK dY
 simp only
 rw [bM (by rfl),bM (by rfl),aS (by rfl),show bV (Ty.dflt aF) (csH k) 0=fT (bH k) (dB) true 123 3 from rfl]
 simp only [fT,noA,bH,dB]
 rw [Km hk,dH,decide_eq_false h]
 rfl
include hk in
theorem yVi (h:n ≠ k):Cz 123 2000 (eU k,(false,((1,btH false 0 n P e l),[])))=some ((1,btH false 1 n P e l),[],[]):=by
 unfold Cz dY
 simp only
 rw [bM (by rfl),bM (by rfl),aS (by rfl),show bV (Ty.dflt aF) (csH k) 0=fT (bH k) (dB) true 123 3 from rfl]
 simp only [fT,noA,bH,dB]
 rw [Km hk,dH,decide_eq_false h]
 rfl
include hk in
theorem yVj (h:n ≠ k):fD 2000 (eU k,(false,((1,btH false 0 n P e l),[])))=some ((1,btH false 1 n P e l),[],[]) :=
 wF (yVf hk n P e l h) (wF (yVg hk n P e l h) (wF (yVh hk n P e l h) (yVi hk n P e l h)))
include hk in
theorem ySr (h:n=k):dQ 112 2000 (eU k,(false,((1,btH false 0 n P e l),[])))=some ((1,btH (!l) 4 n P e l),[],[]):=by
 unfold dQ dY
 simp only
 rw [bM (by rfl),bM (by rfl),aS (by rfl),show bV (Ty.dflt aF) (csH k) 0=fT (bH k) (dB) true 123 3 from rfl]
 simp only [fT,noA,bH,dB]
 rw [Km hk,dH,decide_eq_true h]
 rfl
include hk in
theorem ySs:dQ 112 2000 (eU k,(false,((1,btH true 0 n P e l),[])))=some ((1,btH (!l) 4 n P e l),[],[]):=by
 unfold dQ dY
 simp only
 rw [bM (by rfl),bM (by rfl),aS (by rfl),show bV (Ty.dflt aF) (csH k) 0=fT (bH k) (dB) true 123 3 from rfl]
 simp only [fT,noA,bH,dB]
 rw [yDc hk,dH]
 rfl
include hk in
theorem yVk (h:n=k):fD 2000 (eU k,(false,((1,btH false 0 n P e l),[])))=some ((1,btH (!l) 4 n P e l),[],[]):=wE (ySr hk n P e l h)
include hk in
theorem yVl:fD 2000 (eU k,(false,((1,btH true 0 n P e l),[])))=some ((1,btH (!l) 4 n P e l),[],[]):=wE (ySs hk n P e l)
theorem yVm:dQ 112 2000 (eU k,(false,((1,btH o 1 n P e l),[])))=some ((1,btH o 2 n P e l),[],[(P,(e,()))]):=by
 unfold dQ dY
 simp only
 rw [bM (by rfl),bM (by rfl),aS (by rfl),show bV (Ty.dflt aF) (csH k) 1=fT (noA) (noA) false 112 0 from rfl]
 simp only [fT,noA,bH,dB]
 rw [yIe,dH]
 rfl
theorem H_p:fD 2000 (eU k,(false,((1,btH o 1 n P e l),[])))=some ((1,btH o 2 n P e l),[],[(P,(e,()))]):=wE (yVm n P e l o)
theorem del_eq (hl:P.length <= 100000):∀ (c1 c2 c3 c4 c5 c6:Int) (c7:Bool) (pc:Int),lX 2000 (c1,c2,c3,c4,c5,c6,c7,100,[],[],0,0,(-1),[],false,false,1,pc,n,0,(-1),P,[],e,l,false,[],false,[],csH k,false,[],R5 o,[],()) =
  some (0,pc,n,0,(-1),P,[],e,l,false,[],false,[],csH k,false,[],R5 o,[],()):=by
 intro c1 c2 c3 c4 c5 c6 c7 pc
 unfold lX
 simp only
 unfold strings_Cut
 rw [aS (decide_eq_true (by simp only; omega)),dH,kK (by rfl)]
 rfl
theorem yVn:dQ 112 2000 (eU k,(false,((1,btH o 2 n P e l),[])))=none:=by
 unfold dQ dY
 simp only
 rw [bM (by rfl),bM (by rfl),aS (by rfl),show bV (Ty.dflt aF) (csH k) 2=fT (noA) (noA) false 100 0 from rfl]
 simp only [fT,noA,bH,dB]
 rw [zQr,dH]
 rfl
theorem yVo (hl:P.length <= 100000):jC 100 2000 (eU k,(false,((1,btH o 2 n P e l),[])))=some ((0,btH o 3 n P e l),[],[]):=by
 unfold jC dY
 simp only
 rw [bM (by rfl),bM (by rfl),aS (by rfl),show bV (Ty.dflt aF) (csH k) 2=fT (noA) (noA) false 100 0 from rfl]
 simp only [fT,noA,bH,dB]
 rw [zQr,dH]
 simp only
 rw [kK (by rfl),aS (by rfl),show IntKind.wrap .i64 (2+1)=3 from rfl,del_eq n P e l o hl,dH]
theorem H_d (hl:P.length <= 100000):fD 2000 (eU k,(false,((1,btH o 2 n P e l),[])))=some ((0,btH o 3 n P e l),[],[]):=wF (yVn n P e l o) (wE (yVo n P e l o hl))
include hk in
theorem ySt (h:n=k):dQ 112 2000 (eU k,(false,((1,btH o 4 n P e l),[])))=some ((1,btH o 5 n P e l),[],[]):=by
 unfold dQ dY
 simp only
 rw [bM (by rfl),bM (by rfl),aS (by rfl),show bV (Ty.dflt aF) (csH k) 4=fT (bH k) (noA) true 100 0 from rfl]
 simp only [fT,noA,bH,dB]
 rw [zCu hk,dH,decide_eq_true h]
 rfl
include hk in
theorem yVp (h:n ≠ k):dQ 112 2000 (eU k,(false,((1,btH o 4 n P e l),[])))=none:=by
 unfold dQ dY
 simp only
 rw [bM (by rfl),bM (by rfl),aS (by rfl),show bV (Ty.dflt aF) (csH k) 4=fT (bH k) (noA) true 100 0 from rfl]
 simp only [fT,noA,bH,dB]
 rw [zCu hk,dH,decide_eq_false h]
 rfl
include hk in
theorem yVq (h:n ≠ k) (hl:P.length <= 100000):jC 100 2000 (eU k,(false,((1,btH o 4 n P e l),[])))=some ((0,btH o 5 n P e l),[],[]):=by
 unfold jC dY
 simp only
 rw [bM (by rfl),bM (by rfl),aS (by rfl),show bV (Ty.dflt aF) (csH k) 4=fT (bH k) (noA) true 100 0 from rfl]
 simp only [fT,noA,bH,dB]
 rw [zCu hk,dH,decide_eq_false h]
 simp only
 rw [kK (by rfl),aS (by rfl),show IntKind.wrap .i64 (4+1)=5 from rfl,del_eq n P e l o hl,dH]
include hk in
theorem yVr (h:n=k):fD 2000 (eU k,(false,((1,btH o 4 n P e l),[])))=some ((1,btH o 5 n P e l),[],[]):=wE (ySt hk n P e l o h)
include hk in
theorem yVs (h:n ≠ k) (hl:P.length <= 100000):fD 2000 (eU k,(false,((1,btH o 4 n P e l),[])))=some ((0,btH o 5 n P e l),[],[]):=wF (yVp hk n P e l o h) (wE (yVq hk n P e l o h hl))
theorem H_e:fD 2000 (eU k,(false,((1,btH o 5 n P e l),[])))=some ((0,btH o 5 n P e l),[],[(P,(e,()))]):=wE (by kernel_rfl)
end
end Go.Dec
namespace Go.Dec
theorem ySu {n:Nat} {a:List UInt8} (h:a.length <= 1000000):gH n (10,bD a,())=some (false,bD (a++[10]),()):=by
 unfold gH lT
 simp only [dH]
 rw [aS (by simp only [Wq,List.length_cons,List.length_nil]; simp [room]; omega),Mh]
 rfl
theorem zUy {n:Nat} {l:List nQ} (hl:l.length <= 1000) (hs:gZ l <= 10000):∀ (r pre:List nQ) (m:Nat),l=pre++r->r.length < m->(joinL pre).length <= gZ pre ->
  fix (rX n) m (l,(l.length:Int),(pre.length:Int),bD (joinL pre),())=some (joinL l)
 | [],pre,m,hp,hm,ha=>by
  have hp:pre=l:=by simpa using hp.symm
  subst hp
  rw [Bh (by omega),rX]
  simp only
  rw [bM (by simp),zAd]
  rfl
 | e :: r,pre,m,hp,hm,ha=>by
  have hm':r.length+1 < m:=hm
  have hlen:l.length=pre.length+r.length+1:=by rw [hp]; simp; omega
  have hsum:gZ l=gZ pre+(e.1.length+1+gZ r):=by rw [hp,Kl]; rfl
  have hsp:gZ (pre++[e])=gZ pre+(e.1.length+1):=by rw [Kl]; simp [gZ]
  have hj:joinL (pre++[e])=joinL pre++vL e:=by simp [joinL]
  have hle:(vL e).length <= e.1.length+1:=by unfold vL; split <;> simp
  have hi:=zUy (n:=n) hl hs r (pre++[e]) (m - 1) (by rw [hp]; simp) (by omega) (by rw [hj,List.length_append]; omega)
  rw [show ((pre++[e]).length:Int)=(pre.length:Int)+1 by simp,hj] at hi
  rw [Bh (by omega),rX]
  simp only
  rw [kK (decide_eq_true (by omega)),aS (yOb (by omega)),zJn hp,zZt (by omega)]
  simp only [dH]
  cases he:e.2.1 with
  | true =>
   rw [yNz,ySu (by rw [List.length_append]; omega),dH]
   simp only
   rw [Lv (by omega) (by omega),show joinL pre++e.1++[10]=joinL pre++vL e by simp [vL,he]]
   exact hi
  | false =>
   rw [yOa,Lv (by omega) (by omega),show joinL pre++e.1=joinL pre++vL e by simp [vL,he]]
   exact hi
theorem join_eq {l:List nQ} (hl:l.length <= 1000) (hs:gZ l <= 10000):Ad 2000 l=some (joinL l):=by
 unfold Ad
 exact zUy (n:=2000) hl hs l [] 2000 rfl (by omega) (by simp [joinL])
theorem zUz {line inp s:List UInt8} {scr:zBy} {q:Bool} {b:BkD} {bt:BtD} {out:List nQ} {st wk hd:Int} (hp:jH 2000 (line,[])=some ([gJ scr q],0,0)) (hn:Bw 2000 ([gJ scr q],inp,[],false)=some (iY (gJ scr q) false b inp [] 0 0 0,0))
  (hr:Bz 2000 (iY (gJ scr q) false b inp [] 0 0 0,5000)=some (iY (gJ scr q) true (4,bt) [] out st wk hd,0)) (hb:wD 2000 out=some s):Ca 2000 (line,inp)=some (s,true):=by
 unfold Ca Mt iW
 simp only
 rw [hp,dH,bM (by rfl)]
 unfold Db
 simp only
 rw [hn,dH,bM (by rfl),hr,dH]
 simp only
 rw [hb,dH]
 simp only [dH]
 rw [bM (by rfl)]
 rfl
def Af:List nQ->Prop
 | []=>True
 | e :: r=>(r=[]∨e.2.1=true)∧Af r
theorem Fg:∀ (r w:List UInt8),Af (iO w r)
 | [],w=>by cases w <;> simp [iO,Af]
 | c :: r,w=>by
  unfold iO
  split
  ·exact ⟨.inr rfl,Fg r []⟩
  ·exact Fg r _
theorem zJy:∀ (l:List nQ),gZ l <= (joinL l).length+l.length
 | []=>by simp [gZ]
 | e :: r=>by
  have:=zJy r
  simp only [gZ,joinL,List.flatMap_cons,List.length_append,vL,List.length_cons] at *
  omega
abbrev stQ (k:Nat):eX:=gJ (pK k) false
abbrev stH (k:Nat):eX:=gJ (eU k) false
theorem yDd {c:UInt8} {r:List UInt8} (h:(c :: r).length <= 400):strings_Cut 2000 (c :: r,[10])=some ((dV (c :: r)).1,(dV (c :: r)).2.1,(dV (c :: r)).2.2):=by
 unfold strings_Cut
 rw [aS (decide_eq_true (by simp only; omega)),zNd]
theorem zJz:∀ s:List UInt8,(dV s).1.length+(dV s).2.1.length <= s.length
 | []=>by simp [dV]
 | b :: r=>by
  have:=zJz r
  unfold dV
  split
  ·simp
  ·simp only [List.length_cons]; omega
theorem yDe {n:Nat} (h1:n <= 100000):w1 (n:Int)=((n+1:Nat):Int):=by rw [show w1 (n:Int)=(n:Int)+1 from Lv (by omega) (by omega)]; simp
theorem goQ {k:Nat} (hk:is9 k):∀ (s:Nat) (d:List UInt8) (out:List nQ) (pc:Int) (n:Nat) (P:List UInt8) (e l:Bool) (j:Nat) (st wk:Int),d.length <= s->d.length <= 400->out.length+d.length <= 900->j+3 * d.length+4 <= 1900->n < k ->
  ∃ bt st' wk',fix (fV 2000) (2000 - j) (zCs (j:Int) (iY (stQ k) true (0,btQ pc n P e l) d out st wk 0))=some (iY (stQ k) true (4,bt) [] (out++(bY d).take (k - n)) st' wk' 0,0)
 | s,[],out,pc,n,P,e,l,j,st,wk,_,_,_,hj,hn=>by
  refine ⟨btQ pc n P e l,w1 st,wk,?_⟩
  simp only [List.length_nil] at hj
  rw [gP (by omega) (by omega) (by omega) (zIg (pK k) false (btQ pc n P e l) out st wk 0) (step_end (pK k) false (btQ pc n P e l) out st wk 0)]
  rw [zCt (by omega) (zQo (pK k) false (btQ pc n P e l) [] out (w1 st) wk 0)]
  simp [Qz]
 | 0,c :: r,_,_,_,_,_,_,_,_,_,h,_,_,_,_=>by simp at h
 | s+1,c :: r,out,pc,n,P,e,l,j,st,wk,hs,hd,ho,hj,hn=>by
  have hne:c :: r ≠ []:=by simp
  have hsh:=Cr hne
  have hc:=yDd hd
  have hsp:=Gu hne
  generalize hu:dV (c :: r)=u at hc hsp hsh
  obtain ⟨t,v,b⟩:=u
  simp only at hc hsp hsh
  have hlen:(c :: r).length=r.length+1:=rfl
  have hk9:=hk.2
  have hw:w1 (n:Int)=((n+1:Nat):Int):=yDe (by omega)
  rw [gP (by omega) (by omega) (by omega) (zQq (pK k) false (btQ pc n P e l) out st wk 0 hc) (step_take (pK k) false (btQ pc n P e l) out st wk 0 hc)]
  rw [show took (btQ pc n P e l) t b (v == [])=(1,btQ 0 ((n+1:Nat):Int) t b (v == [])) from by rw [<- hw]]
  by_cases hlast:n+1=k
  ·have h1:=yVe hk ((n+1:Nat):Int) t b (v == []) (by rw [hlast])
   refine ⟨btQ 1 ((n+1:Nat):Int) t b (v == []),w1 (w1 st),w1 wk,?_⟩
   rw [gP (by omega) (by omega) (by omega) (qN (pK k) false (btQ 0 ((n+1:Nat):Int) t b (v == [])) v out _ _ 0) (yDb (pK k) false _ v out _ _ 0 h1 rfl (by simp; omega))]
   rw [zCt (by omega) (zQo (pK k) false _ [] _ _ _ 0),hsp,show k - n=1 by omega]
   rfl
  ·have h1:=yVa hk ((n+1:Nat):Int) t b (v == []) (by omega)
   have h2:=ySq (k:=k) ((n+1:Nat):Int) t b (v == [])
   obtain ⟨bt,st',wk',ih⟩:=goQ hk s v (out++[(t,(b,()))]) 1 (n+1) t b (v == []) (j+3) (w1 (w1 (w1 st))) (w1 (w1 wk)) (by omega) (by omega) (by simp; omega) (by omega) (by omega)
   refine ⟨bt,st',wk',?_⟩
   rw [gP (by omega) (by omega) (by omega) (qN (pK k) false (btQ 0 ((n+1:Nat):Int) t b (v == [])) v out _ _ 0) (pJ (pK k) false _ v out _ _ 0 h1 (by simp; omega) (by rfl))]
   rw [gP (by omega) (by omega) (by omega) (qN (pK k) false (btQ 1 ((n+1:Nat):Int) t b (v == [])) v _ _ _ 0) (pJ (pK k) false _ v _ _ _ 0 h2 (by simp; omega) (by rfl))]
   rw [show 2000 - j - 1 - 1 - 1=2000 - (j+3) by omega,show (j:Int)+1+1+1=((j+3:Nat):Int) by omega]
   simp only [List.append_nil]
   rw [ih,hsp,show k - n=(k - (n+1))+1 by omega,List.take_succ_cons]
   simp
theorem goH {k:Nat} (hk:is9 k):∀ (s:Nat) (d:List UInt8) (out:List nQ) (o:Bool) (pc:Int) (n:Nat) (P:List UInt8) (e l:Bool) (j:Nat) (st wk:Int),d.length <= s->d.length <= 400->out.length+d.length <= 900->j+4 * d.length+4 <= 1900->n+d.length <= 1000->(d=[]∨o=decide (k <= n)) ->
  ∃ bt st' wk',fix (fV 2000) (2000 - j) (zCs (j:Int) (iY (stH k) true (0,btH o pc n P e l) d out st wk 0))=some (iY (stH k) true (4,bt) [] (out++(bY d).take (k - n)) st' wk' 0,0)
 | s,[],out,o,pc,n,P,e,l,j,st,wk,_,_,_,hj,_,_=>by
  refine ⟨btH o pc n P e l,w1 st,wk,?_⟩
  simp only [List.length_nil] at hj
  rw [gP (by omega) (by omega) (by omega) (zIg (eU k) false (btH o pc n P e l) out st wk 0) (step_end (eU k) false (btH o pc n P e l) out st wk 0)]
  rw [zCt (by omega) (zQo (eU k) false (btH o pc n P e l) [] out (w1 st) wk 0)]
  simp [Qz]
 | 0,c :: r,_,_,_,_,_,_,_,_,_,_,h,_,_,_,_,_=>by simp at h
 | s+1,c :: r,out,o,pc,n,P,e,l,j,st,wk,hs,hd,ho,hj,hn,hO=>by
  have hO:o=decide (k <= n):=by rcases hO with h | h; exact absurd h (by simp); exact h
  have hne:c :: r ≠ []:=by simp
  have hsh:=Cr hne
  have hc:=yDd hd
  have hsp:=Gu hne
  have hln:=zJz (c :: r)
  generalize hu:dV (c :: r)=u at hc hsp hsh hln
  obtain ⟨t,v,b⟩:=u
  simp only at hc hsp hsh
  have hln:t.length+v.length <= (c :: r).length:=hln
  have hlen:(c :: r).length=r.length+1:=rfl
  have hw:w1 (n:Int)=((n+1:Nat):Int):=yDe (by omega)
  have hvo:∀ m,k <= m->(v=[]∨(!(v == []))=decide (k <= m)):=fun m hm=>by
   cases v with
   | nil=>exact .inl rfl
   | cons x v=>right; simp [hm]
  rw [gP (by omega) (by omega) (by omega) (zQq (eU k) false (btH o pc n P e l) out st wk 0 hc) (step_take (eU k) false (btH o pc n P e l) out st wk 0 hc)]
  rw [show took (btH o pc n P e l) t b (v == [])=(1,btH o 0 ((n+1:Nat):Int) t b (v == [])) from by rw [<- hw]]
  rcases Nat.lt_trichotomy (n+1) k with hlt | heq | hgt
  ·obtain rfl:o=false:=by rw [hO]; simp; omega
   have h1:=yVj hk ((n+1:Nat):Int) t b (v == []) (by omega)
   have h2:=H_p (k:=k) ((n+1:Nat):Int) t b (v == []) false
   have h3:=H_d (k:=k) ((n+1:Nat):Int) t b (v == []) false (by omega)
   obtain ⟨bt,st',wk',ih⟩:=goH hk s v (out++[(t,(b,()))]) false 3 (n+1) t b (v == []) (j+4) (w1 (w1 (w1 (w1 st)))) (w1 (w1 (w1 wk))) (by omega) (by omega) (by simp; omega) (by omega) (by omega) (.inr (by simp; omega))
   refine ⟨bt,st',wk',?_⟩
   rw [gP (by omega) (by omega) (by omega) (qN (eU k) false (btH false 0 ((n+1:Nat):Int) t b (v == [])) v out _ _ 0) (pJ (eU k) false _ v out _ _ 0 h1 (by simp; omega) (by rfl))]
   rw [gP (by omega) (by omega) (by omega) (qN (eU k) false (btH false 1 ((n+1:Nat):Int) t b (v == [])) v _ _ _ 0) (pJ (eU k) false _ v _ _ _ 0 h2 (by simp; omega) (by rfl))]
   rw [gP (by omega) (by omega) (by omega) (qN (eU k) false (btH false 2 ((n+1:Nat):Int) t b (v == [])) v _ _ _ 0) (pJ (eU k) false _ v _ _ _ 0 h3 (by simp; omega) (by rfl))]
   rw [show 2000 - j - 1 - 1 - 1 - 1=2000 - (j+4) by omega,show (j:Int)+1+1+1+1=((j+4:Nat):Int) by omega]
   simp only [List.append_nil]
   rw [ih,hsp,show k - n=(k - (n+1))+1 by omega,List.take_succ_cons]
   simp
  ·obtain rfl:o=false:=by rw [hO]; simp; omega
   have h1:=yVk hk ((n+1:Nat):Int) t b (v == []) (by rw [heq])
   have h2:=yVr hk ((n+1:Nat):Int) t b (v == []) (!(v == [])) (by rw [heq])
   have h3:=H_e (k:=k) ((n+1:Nat):Int) t b (v == []) (!(v == []))
   obtain ⟨bt,st',wk',ih⟩:=goH hk s v (out++[(t,(b,()))]) (!(v == [])) 5 (n+1) t b (v == []) (j+4) (w1 (w1 (w1 (w1 st)))) (w1 (w1 (w1 wk))) (by omega) (by omega) (by simp; omega) (by omega) (by omega) (hvo _ (by omega))
   refine ⟨bt,st',wk',?_⟩
   rw [gP (by omega) (by omega) (by omega) (qN (eU k) false (btH false 0 ((n+1:Nat):Int) t b (v == [])) v out _ _ 0) (pJ (eU k) false _ v out _ _ 0 h1 (by simp; omega) (by rfl))]
   rw [gP (by omega) (by omega) (by omega) (qN (eU k) false (btH (!(v == [])) 4 ((n+1:Nat):Int) t b (v == [])) v _ _ _ 0) (pJ (eU k) false _ v _ _ _ 0 h2 (by simp; omega) (by rfl))]
   rw [gP (by omega) (by omega) (by omega) (qN (eU k) false (btH (!(v == [])) 5 ((n+1:Nat):Int) t b (v == [])) v _ _ _ 0) (pJ (eU k) false _ v _ _ _ 0 h3 (by simp; omega) (by rfl))]
   rw [show 2000 - j - 1 - 1 - 1 - 1=2000 - (j+4) by omega,show (j:Int)+1+1+1+1=((j+4:Nat):Int) by omega]
   simp only [List.append_nil]
   rw [ih,hsp,show k - n=(k - (n+1))+1 by omega,List.take_succ_cons]
   simp
  ·obtain rfl:o=true:=by rw [hO]; simp; omega
   have h1:=yVl hk ((n+1:Nat):Int) t b (v == [])
   have h2:=yVs hk ((n+1:Nat):Int) t b (v == []) (!(v == [])) (by omega) (by omega)
   obtain ⟨bt,st',wk',ih⟩:=goH hk s v out (!(v == [])) 5 (n+1) t b (v == []) (j+3) (w1 (w1 (w1 st))) (w1 (w1 wk)) (by omega) (by omega) (by omega) (by omega) (by omega) (hvo _ (by omega))
   refine ⟨bt,st',wk',?_⟩
   rw [gP (by omega) (by omega) (by omega) (qN (eU k) false (btH true 0 ((n+1:Nat):Int) t b (v == [])) v out _ _ 0) (pJ (eU k) false _ v out _ _ 0 h1 (by simp; omega) (by rfl))]
   rw [gP (by omega) (by omega) (by omega) (qN (eU k) false (btH (!(v == [])) 4 ((n+1:Nat):Int) t b (v == [])) v _ _ _ 0) (pJ (eU k) false _ v _ _ _ 0 h2 (by simp; omega) (by rfl))]
   rw [show 2000 - j - 1 - 1 - 1=2000 - (j+3) by omega,show (j:Int)+1+1+1=((j+3:Nat):Int) by omega]
   simp only [List.append_nil]
   rw [ih,show k - n=0 by omega,show k - (n+1)=0 by omega]
   simp
theorem ySv (k:Nat) (inp:List UInt8):Bw 2000 ([stQ k],inp,[],false)=some (iY (stQ k) false (0,btQ 0 0 [] false false) inp [] 0 0 0,0):=by kernel_rfl
theorem ySw (k:Nat) (inp:List UInt8):Bw 2000 ([stH k],inp,[],false)=some (iY (stH k) false (0,btH false 0 0 [] false false) inp [] 0 0 0,0):=by kernel_rfl
theorem yMp {k:Nat} (hk:is9 k) {inp:List UInt8} (h:inp.length <= 300):∃ bt st wk,Bz 2000 (iY (stQ k) false (0,btQ 0 0 [] false false) inp [] 0 0 0,5000)=some (iY (stQ k) true (4,bt) [] ((bY inp).take k) st wk 0,0):=by
 obtain ⟨bt,st,wk,hg⟩:=goQ hk inp.length inp [] 0 0 [] false false 1 (w1 0) 0 (aK _) (by omega) (by simp; omega) (by omega) hk.1
 refine ⟨bt,st,wk,?_⟩
 have hb:nH 2000 (stQ k,[])=some []:=if_pos ⟨k,hk,.inl rfl⟩
 show fix (fV 2000) 2000 (zCs 0 (iY (stQ k) false (0,btQ 0 0 [] false false) inp [] 0 0 0))=_
 rw [gP (by omega) (by omega) (by omega) (zQn (pK k) false (btQ 0 0 [] false false) inp [] 0 0 0) (zGa (pK k) false (btQ 0 0 [] false false) inp [] 0 0 0 hb)]
 exact hg
theorem yMq {k:Nat} (hk:is9 k) {inp:List UInt8} (h:inp.length <= 300):∃ bt st wk,Bz 2000 (iY (stH k) false (0,btH false 0 0 [] false false) inp [] 0 0 0,5000)=some (iY (stH k) true (4,bt) [] ((bY inp).take k) st wk 0,0):=by
 obtain ⟨bt,st,wk,hg⟩:=goH hk inp.length inp [] false 0 0 [] false false 1 (w1 0) 0 (aK _) (by omega) (by simp; omega) (by omega) (by omega) (.inr (by have:=hk.1; simp; omega))
 refine ⟨bt,st,wk,?_⟩
 have hb:nH 2000 (stH k,[])=some []:=if_pos ⟨k,hk,.inr rfl⟩
 show fix (fV 2000) 2000 (zCs 0 (iY (stH k) false (0,btH false 0 0 [] false false) inp [] 0 0 0))=_
 rw [gP (by omega) (by omega) (by omega) (zQn (eU k) false (btH false 0 0 [] false false) inp [] 0 0 0) (zGa (eU k) false (btH false 0 0 [] false false) inp [] 0 0 0 hb)]
 exact hg
theorem zAi:∀ (k:Nat) (l:List nQ),Af l->Af (l.take k)
 | 0,_,_=>by simp [Af]
 | k+1,[],_=>by simp [Af]
 | k+1,x :: r,⟨h1,h2⟩=>by
  rw [List.take_succ_cons]
  exact ⟨h1.imp (fun h=>by simp [h]) id,zAi k r h2⟩
theorem zGb:∀ l:List nQ,Af l->vD [] l=joinL l
 | [],_=>rfl
 | x :: r,⟨h1,h2⟩=>by
  have ih:=zGb r h2
  cases hx:x.2.1 with
  | true=>simp [vD,joinL,vL,hx,ih]
  | false =>
   rcases h1 with h1 | h1
   ·subst h1
    simp [vD,joinL,vL,hx]
   ·rw [hx] at h1; cases h1
theorem zKa:∀ (k:Nat) (l:List nQ),gZ (l.take k) <= gZ l
 | 0,l=>by simp [gZ]
 | k+1,[]=>by simp [gZ]
 | k+1,x :: r=>by
  have:=zKa k r
  simp only [List.take_succ_cons,gZ]
  omega
theorem zLi {p:Nat->Prop} (h1:p 1) (h2:p 2) (h3:p 3) (h4:p 4) (h5:p 5) (h6:p 6) (h7:p 7) (h8:p 8) (h9:p 9):∀ k,is9 k->p k
 | 0,h=>absurd h.1 (by omega)
 | 1,_=>h1
 | 2,_=>h2
 | 3,_=>h3
 | 4,_=>h4
 | 5,_=>h5
 | 6,_=>h6
 | 7,_=>h7
 | 8,_=>h8
 | 9,_=>h9
 | k+10,h=>absurd h.2 (by omega)
theorem yIf:∀ k,is9 k->([115,101,100,32]++cO [IntKind.wrap .u8 (48+IntKind.wrap .u8 (k:Int))])++[113]=mM k:=zLi rfl rfl rfl rfl rfl rfl rfl rfl rfl
theorem yIg:∀ k,is9 k->((([115,101,100,32,39]++cO [IntKind.wrap .u8 (48+IntKind.wrap .u8 (k:Int))])++[44,36,33,123,112,59,100,125,59])++cO [IntKind.wrap .u8 (48+IntKind.wrap .u8 (k:Int))])++[33,100,39]=kM k:=zLi rfl rfl rfl rfl rfl rfl rfl rfl rfl
theorem yIh:∀ k,is9 k->((mM k).getD 4 0).toNat - 48=k:=zLi rfl rfl rfl rfl rfl rfl rfl rfl rfl
theorem yIi:∀ k,is9 k->((kM k).getD 5 0).toNat - 48=k:=zLi rfl rfl rfl rfl rfl rfl rfl rfl rfl
theorem yQb {k:Nat} (hk:is9 k):jH 2000 (mM k,[])=some ([stQ k],0,0):=by
 unfold jH
 refine (if_pos ⟨by show is9 (((mM k).getD 4 0).toNat - 48); rw [yIh k hk]; exact hk,by show _=(mM (((mM k).getD 4 0).toNat - 48),_); rw [yIh k hk]⟩).trans ?_
 show some ([zT (((mM k).getD 4 0).toNat - 48)],(0:Int),(0:Int))=_
 rw [yIh k hk]
 rfl
theorem yQc {k:Nat} (hk:is9 k):jH 2000 (kM k,[])=some ([stH k],0,0):=by
 unfold jH
 have h4:¬ is9 (((kM k).getD 4 0).toNat - 48):=fun h=>absurd h.1 (by simp [kM])
 rw [if_neg (fun h=>h4 h.1)]
 refine (if_pos ⟨by show is9 (((kM k).getD 5 0).toNat - 48); rw [yIi k hk]; exact hk,by show _=(kM (((kM k).getD 5 0).toNat - 48),_); rw [yIi k hk]⟩).trans ?_
 show some ([zU (((kM k).getD 5 0).toNat - 48)],(0:Int),(0:Int))=_
 rw [yIi k hk]
 rfl
theorem Zn (x:List UInt8 × Int) (hx:0 <= x.2∧x.2 <= 255):Dc 2000 x=some true:=by
 obtain ⟨inp,n⟩:=x
 simp only at hx
 unfold Dc
 simp only
 by_cases h:300 < inp.length
 ·rw [kK (decide_eq_true (by omega))]; rfl
 rw [bM (decide_eq_false (by omega)),show showntop 2000 ()=some true from rfl,dH,bM (by rfl),aS (by rfl)]
 obtain ⟨k,hk,hv⟩:∃ k:Nat,is9 k∧IntKind.wrap .i64 (1+Int.tmod (IntKind.wrap .i64 n) 9)=(k:Int):=by
  have h1:IntKind.wrap .i64 n=n:=Lv (by omega) (by omega)
  have h2:Int.tmod n 9=n % 9:=Int.tmod_eq_emod_of_nonneg hx.1
  refine ⟨(1+n % 9).toNat,⟨by omega,by omega⟩,?_⟩
  rw [h1,h2,Lv (by omega) (by omega)]
  omega
 rw [hv]
 have hb1:(cO [IntKind.wrap .u8 (48+IntKind.wrap .u8 (k:Int))]).length=1:=by simp [cO]
 rw [aS (decide_eq_true (by simp [hb1,jR])),aS (decide_eq_true (by simp [hb1,jR])),yIf k hk]
 have h2:=Gt inp []
 have h3:=zJy (bY inp)
 rw [Vp] at h3
 have hlen:(bY inp).length <= 301:=by simp only [bY]; omega
 have hlk:((bY inp).take k).length <= 301:=by simp; omega
 have hsk:=zKa k (bY inp)
 obtain ⟨bt,st,wk,hr⟩:=yMp hk (inp:=inp) (by omega)
 rw [zUz (yQb hk) (ySv k inp) hr (zUv (by omega) (by omega) (by omega)),dH]
 rw [aS (decide_eq_true (by simp [hb1,jR])),aS (decide_eq_true (by simp [hb1,jR])),aS (decide_eq_true (by simp [hb1,jR])),aS (decide_eq_true (by simp [hb1,jR])),yIg k hk]
 obtain ⟨bt',st',wk',hr'⟩:=yMq hk (inp:=inp) (by omega)
 rw [zUz (yQc hk) (ySw k inp) hr' (zUv (by omega) (by omega) (by omega)),dH]
 rw [show kL 2000 inp=some (bY inp) from by unfold kL; rw [aS (decide_eq_true (by omega))],dH]
 rw [kK (by rfl),kK (by rfl),kK (by simp)]
 have hmin:(if ((bY inp).length:Int) < (k:Int) then ((bY inp).length:Int) else (k:Int))=((min (bY inp).length k:Nat):Int):=by
  split <;> omega
 rw [hmin,aS (by simp; omega)]
 have ht:(bY inp).take ((min (bY inp).length k:Nat):Int).toNat=(bY inp).take k:=by
  rw [Int.toNat_natCast,List.take_eq_take_iff]
  omega
 rw [ht,join_eq (by omega) (by omega),dH,zGb _ (zAi k _ (show Af (bY inp) from Fg inp []))]
 simp
theorem zGd (x:bW [.str,.int .u8]) (hx:zDo [.str,.int .u8] x):Dc 2000 x=some true :=
 Zn x ⟨hx.2.1,hx.2.2⟩
end Go.Dec
