/- Part of a proof over this seat: a library of my own, and what it says of this seat. No statement is proved here. -/
import Derived.Test.YtdgneppobefaoaaGreatDoorPartBS
import Derived.Test.YtdgneppobefaoaaGreatDoorPartBA
import Derived.KernelRfl
namespace Go.Dec
abbrev jC:Type:=List UInt8 × Bool × Unit
abbrev BtD:Type:=Int × Int × Int × Int × List UInt8 × List UInt8 × Bool × Bool × Bool × List (Bool × Int × Unit) × List jC × Unit
abbrev BkD:Type:=Int × BtD
abbrev iH (scr:zEl) (q:Bool):aW:=(scr,(q,([],(false,()))))
abbrev lV (g:aW) (bg:Bool) (b:BkD) (d:List UInt8) (out:List jC) (st wk hd:Int):bG [gF] :=
 ([g],([false],(false,([b],([bg],([[]],([(d,(false,(true,())))],(out,([],([0],(st,(wk,(hd,())))))))))))))
section
variable (scr:zEl) (q:Bool) (bt:BtD) (d:List UInt8) (out:List jC) (st wk hd:Int)
theorem zZg:gK 2000 (lV (iH scr q) false (0,bt) d out st wk hd)=some 0:=by kernel_rfl
theorem Us:gK 2000 (lV (iH scr q) true (1,bt) d out st wk hd)=some 0:=by kernel_rfl
theorem yKn:gK 2000 (lV (iH scr q) true (4,bt) d out st wk hd)=some (-1):=by kernel_rfl
theorem zRp:gK 2000 (lV (iH scr q) true (0,bt) [] out st wk hd)=some 0:=by kernel_rfl
theorem yGv (l:List jC):jA 2000 l=some l:=by
 unfold jA
 exact bB (by simp) _
theorem zDb (g:aW) (bg:Bool) (b:BkD):lC 2000 ([g],[false],false,[b],[bg],[[]],[(d,(false,(true,())))],out,[],[0],st,wk,hd,()) =
  some ([g],[false],false,out,[],st,wk,hd,[b],[bg],[[]],[(d,(false,(true,())))],[0],()):=by
 have h:lC 2000 ([g],[false],false,[b],[bg],[[]],[(d,(false,(true,())))],out,[],[0],st,wk,hd,()) =
  ob (jA 2000 out) fun y=>some ([g],[false],false,y,[],st,wk,hd,[b],[bg],[[]],[(d,(false,(true,())))],[0],()):=by kernel_rfl
 rw [h,yGv,dY]
theorem zOi {c:UInt8} {r:List UInt8} {t u:List UInt8} {e:Bool} (h:strings_Cut 2000 (c :: r,[10])=some (t,u,e)):nV 2000 (c :: r,(false,(true,())))=some ((u,(false,(true,()))),(t,(e,())),(u == []),true):=by
 unfold nV
 simp only
 rw [h,dY]
 cases u with
 | nil=>rfl
 | cons x y=>rfl
theorem zZh {c:UInt8} {r:List UInt8} {t u:List UInt8} {e:Bool} (h:strings_Cut 2000 (c :: r,[10])=some (t,u,e)):gK 2000 (lV (iH scr q) true (0,bt) (c :: r) out st wk hd)=some 0:=by
 have h1:oW 2000 (0,[iH scr q],[false],false,[(0,bt)],[true],[[]],[(c :: r,(false,(true,())))],out,[],[0],st,wk,hd,()) =
   ob (sN 2000 (c :: r,(false,(true,())))) fun y=>br y.2.2 (some (true,[iH scr q],[false],false,[(0,bt)],[true],[[]],[(c :: r,(false,(true,())))],out,[],[0],st,wk,hd,())) (ob (Dw 2000 (c :: r,(false,(true,())))) fun z=>some (z,[iH scr q],[false],false,[(0,bt)],[true],[[]],[(c :: r,(false,(true,())))],out,[],[0],st,wk,hd,())):=by kernel_rfl
 have h2:sN 2000 (c :: r,(false,(true,())))=some ((t,(e,())),(u == []),true):=by
  unfold sN
  simp only
  rw [zOi h,dY]
 rw [h2,dY,kP rfl] at h1
 unfold gK
 simp only
 rw [yJ (by omega),Iw]
 simp only
 rw [kP (by rfl)]
 rw [show IntKind.wrap .i64 (([iH scr q].length:Int) - 1)=0 from rfl,h1,dY,kP rfl]
theorem zWi (hb:nK 2000 (iH scr q,[])=some []):iK 2000 (lV (iH scr q) false (0,bt) d out st wk hd)=some (lV (iH scr q) true (0,bt) d out (IntKind.wrap .i64 (st+1)) wk hd):=by
 unfold iK
 simp only
 rw [zZg,dY,cK (by rfl),zDb,dY]
 rw [bB (by rfl),bB (by rfl),kP (by rfl)]
 unfold mK
 simp only
 rw [bB (by rfl),bB (by rfl),bB (by rfl),cK (by rfl)]
 rw [show bM (Ty.dflt aG) [iH scr q] 0=iH scr q from rfl,hb,dY,cK (by rfl),dY]
 rfl
end
end Go.Dec
namespace Go.Dec
theorem zDc {α β:Type} {x:Option α} {y:α} {k:α->Option β} {r:Option β} (h:x=some y) (hk:k y=r):ob x k=r:=by rw [h,dY]; exact hk
theorem yMb {α:Type} {c:Bool} {x y r:Option α} (h:c=false) (hy:y=r):br c x y=r:=by rw [cK h]; exact hy
section
variable (scr:zEl) (q:Bool) (bt:BtD) (d:List UInt8) (out:List jC) (st wk hd:Int)
abbrev w1 (n:Int):Int:=IntKind.wrap .i64 (n+1)
theorem yGw (g:aW) (b:BkD) (o:List jC) (ho:out.length+o.length <= 1000):kE 2000 (0,o,[g],[false],false,out,[],st,wk,hd,[b],[true],[[]],[(d,(false,(true,())))],[0],()) =
  some ([g],[false],false,out++o,[],st,wk,hd,[b],[true],[[]],[(d,(false,(true,())))],[0],()):=by
 unfold kE
 simp only
 rw [kP (by rfl),bB (Nat.ble_eq_true_of_le (by unfold room; omega))]
theorem run_eq {b':BkD} {o:List jC} (h:mI 2000 (scr,(q,((1,bt),[])))=some (b',[],o)) (ho:out.length+o.length <= 1000) (h4:(b'.1 == 4)=false) :
  lF 2000 (0,[iH scr q],[false],false,out,[],st,wk,hd,[(1,bt)],[true],[[]],[(d,(false,(true,())))],[0],()) =
  some ([iH scr q],[false],false,out++o,[],st,w1 wk,hd,[b'],[true],[[]],[(d,(false,(true,())))],[0],()):=by
 unfold lF
 simp only
 rw [bB (by rfl),bB (by rfl),bB (by rfl)]
 refine zDc h ?_
 dsimp only
 rw [bB (by rfl),bB (by rfl)]
 refine zDc (yGw d out st _ hd (iH scr q) b' o ho) ?_
 dsimp only
 unfold kR
 simp only
 rw [bB (by rfl),bB (by rfl),dY]
 exact yMb h4 rfl
theorem Qj {b':BkD} {o:List jC} (h:mI 2000 (scr,(q,((1,bt),[])))=some (b',[],o)) (ho:out.length+o.length <= 1000) (h4:(b'.1 == 4)=false) :
  iK 2000 (lV (iH scr q) true (1,bt) d out st wk hd)=some (lV (iH scr q) true b' d (out++o) (w1 st) (w1 wk) hd):=by
 unfold iK
 simp only
 rw [Us,dY,cK (by rfl),zDb,dY]
 rw [bB (by rfl),bB (by rfl),cK (by rfl),bB (by rfl),bB (by rfl),kP (by rfl)]
 rw [run_eq scr q bt d out _ wk hd h ho h4,dY]
abbrev took (bt:BtD) (t:List UInt8) (e l:Bool):BkD:=(1,(0,(w1 bt.2.1,(bt.2.2.1,(bt.2.2.2.1,(t,(bt.2.2.2.2.2.1,(e,(l,bt.2.2.2.2.2.2.2.2)))))))))
theorem step_take {c:UInt8} {r t u:List UInt8} {e:Bool} (h:strings_Cut 2000 (c :: r,[10])=some (t,u,e)) :
  iK 2000 (lV (iH scr q) true (0,bt) (c :: r) out st wk hd)=some (lV (iH scr q) true (took bt t e (u == [])) u out (w1 st) wk hd):=by
 unfold iK
 simp only
 rw [zZh scr q bt out st wk hd h,dY,cK (by rfl),zDb,dY]
 rw [bB (by rfl),bB (by rfl),cK (by rfl),bB (by rfl),bB (by rfl),cK (by rfl)]
 unfold mZ
 simp only
 rw [bB (by rfl),kP (by rfl),bB (by rfl),bB (by rfl)]
 rw [show nV 2000 (([((c :: r:List UInt8),(false,(true,())))].getD (0+(0:Int).toNat) (Ty.dflt aQ)).1,(([((c :: r:List UInt8),(false,(true,())))].getD (0+(0:Int).toNat) (Ty.dflt aQ)).2.1,(([((c :: r:List UInt8),(false,(true,())))].getD (0+(0:Int).toNat) (Ty.dflt aQ)).2.2.1,())))=_ from zOi h,dY]
 rw [bB (by rfl),bB (by rfl),dY,kP (by rfl),bB (by rfl),bB (by rfl)]
 unfold Iy
 simp only
 rw [kP (by rfl),dY,bB (by rfl),bB (by rfl)]
 rfl
theorem step_end:iK 2000 (lV (iH scr q) true (0,bt) [] out st wk hd)=some (lV (iH scr q) true (4,bt) [] out (w1 st) wk hd):=by
 unfold iK
 simp only
 rw [zRp,dY,cK (by rfl),zDb,dY]
 kernel_rfl
end
abbrev zOj (k:Int) (m:bG [gF]):=((5000:Int),k,m.1,m.2.1,m.2.2.1,m.2.2.2.1,m.2.2.2.2.1,m.2.2.2.2.2.1,m.2.2.2.2.2.2.1,m.2.2.2.2.2.2.2.1,m.2.2.2.2.2.2.2.2.1,m.2.2.2.2.2.2.2.2.2.1,m.2.2.2.2.2.2.2.2.2.2.1,m.2.2.2.2.2.2.2.2.2.2.2.1,m.2.2.2.2.2.2.2.2.2.2.2.2.1,([]:List aW),([]:List Bool),false,([]:List Bool),([]:List (List jC)),([]:List (List UInt8 × Bool × Bool × Unit)),([]:List zEm),([]:List Int),(0:Int),(0:Int),(0:Int),([]:List BkD),([]:List jC),())
theorem vQ {m m':bG [gF]} {k:Int} {f:Nat} (hf:0 < f) (hk:k < 5000) (h0:0 <= k) (hn:gK 2000 m=some 0) (hs:iK 2000 m=some m') :
  fix (gL 2000) f (zOj k m)=fix (gL 2000) (f - 1) (zOj (k+1) m'):=by
 rw [yJ hf,gL]
 dsimp only
 refine zDc hn ?_
 rw [kP (by rfl),cK (decide_eq_false (by omega))]
 refine zDc hs ?_
 rw [Nq (by omega) (by omega)]
theorem yDc {m:bG [gF]} {k:Int} {f:Nat} (hf:0 < f) (hn:gK 2000 m=some (-1)):fix (gL 2000) f (zOj k m)=some (m,0):=by
 rw [yJ hf,gL]
 dsimp only
 refine zDc hn ?_
 rw [cK (by rfl)]
end Go.Dec
namespace Go.Dec
abbrev Vw:Type:=List UInt8 × Bool × Unit
def uP:List UInt8->List Vw->List UInt8
 | _,[]=>[]
 | g,e :: r=>g++e.1++(if e.2.1 then [10]++uP [] r else uP [10] r)
def iI:List Vw->Nat
 | []=>0
 | e :: r=>e.1.length+1+iI r
theorem Qk:∀ (a b:List Vw),iI (a++b)=iI a+iI b
 | [],b=>by simp [iI]
 | e :: a,b=>by simp only [List.cons_append,iI,Qk a b]; omega
theorem yEs {n:Nat} {s:List UInt8} {a:List UInt8} (h:a.length+s.length <= 1000000):dH n (s,aX a,())=some ((s.length:Int),false,aX (a++s),()):=by
 unfold dH uU
 simp only [dY]
 rw [bB (by simp only [zMo]; simp [room]; omega),zBs]
theorem yDd {n:Nat} {l:List Vw} (hl:l.length <= 1000) (hs:iI l <= 10000):∀ (r pre:List Vw) (g a:List UInt8) (m:Nat),l=pre++r->r.length < m->a.length+g.length <= iI pre ->
  fix (lG n) m (g,l,(l.length:Int),(pre.length:Int),aX a,())=some (a++uP g r):=by
 intro r
 induction r with
 | nil =>
  intro pre g a m hp hm ha
  have hp:pre=l:=by simpa using hp.symm
  subst hp
  rw [yJ (by omega),lG]
  simp only
  rw [cK (by simp),zPm]
  simp [uP]
 | cons e r ih =>
  intro pre g a m hp hm ha
  have hm':r.length+1 < m:=hm
  have hlen:l.length=pre.length+r.length+1:=by rw [hp]; simp; omega
  have hsum:iI l=iI pre+(e.1.length+1+iI r):=by rw [hp,Qk]; rfl
  have hsp:iI (pre++[e])=iI pre+(e.1.length+1):=by rw [Qk]; simp [iI]
  have hi:∀ (g' a':List UInt8),a'.length+g'.length <= iI (pre++[e])->fix (lG n) (m - 1) (g',l,(l.length:Int),(pre.length:Int)+1,aX a',())=some (a'++uP g' r):=fun g' a' h1=>by
   have:=ih (pre++[e]) g' a' (m - 1) (by rw [hp]; simp) (by omega) h1
   rwa [show ((pre++[e]).length:Int)=(pre.length:Int)+1 by simp] at this
  rw [yJ (by omega),lG]
  simp only
  rw [kP (decide_eq_true (by omega)),bB (yBb (by omega)),Ti hp,bB (decide_eq_true (by simp [iN]; omega)),yEs (by simp; omega)]
  simp only [dY]
  cases he:e.2.1 with
  | true =>
   simp only [zTo]
   rw [yEs (by simp; omega)]
   simp only [dY]
   rw [Nq (by omega) (by omega),hi _ _ (by simp; omega)]
   simp [uP,he]
  | false =>
   simp only [yIk]
   rw [Nq (by omega) (by omega),hi _ _ (by simp; omega)]
   simp [uP,he]
theorem yGx {n:Nat} {l:List Vw} (hl:l.length <= 1000) (hs:iI l <= 10000) (hn:1500 <= n):pF n l=some (uP [] l):=by
 unfold pF
 exact yDd (n:=n) hl hs l [] [] [] n rfl (by omega) (by simp [iI])
end Go.Dec
namespace Go.Dec
theorem yGy {line inp s:List UInt8} {scr:zEl} {q:Bool} {b:BkD} {bt:BtD} {out:List jC} {st wk hd:Int} (hp:nJ 2000 (line,[])=some ([iH scr q],0,0)) (hn:Gg 2000 ([iH scr q],inp,[],false)=some (lV (iH scr q) false b inp [] 0 0 0,0))
  (hr:Gn 2000 (lV (iH scr q) false b inp [] 0 0 0,5000)=some (lV (iH scr q) true (4,bt) [] out st wk hd,0)) (hb:pF 2000 out=some s):Gp 2000 (line,inp)=some (s,true):=by
 unfold Gp Iz gQ
 simp only
 rw [hp,dY,cK (by rfl)]
 unfold zS
 simp only
 rw [hn,dY,cK (by rfl),hr,dY]
 simp only
 rw [hb,dY]
 simp only [dY]
 rw [cK (by rfl)]
 rfl
abbrev R3:List (Bool × Int × Unit):=[(false,(0,())),(false,(0,())),(false,(0,()))]
abbrev cG:bV:=((Tn 1,noA,true,()),71,[],[],0,0,-1,[],false,false,())
abbrev cH:bV:=((noA,noA,false,()),104,[],[],0,0,-1,[],false,false,())
abbrev cP:bV:=((Pk,noA,false,()),112,[],[],0,0,-1,[],false,false,())
abbrev csC:List bV:=[cG,cH,cP]
abbrev jD:zEl:=(false,[],csC,())
abbrev btC (pc n:Int) (P H:List UInt8) (e l:Bool):BtD:=(pc,(n,(0,((-1),(P,(H,(e,(l,(false,(R3,([],())))))))))))
theorem Vx {α β:Type} {F G:α->Option β} {x:α} {y:β} (h:F x=some y):orF F G x=some y:=by unfold orF; rw [h]
theorem Vy {α β:Type} {F G:α->Option β} {x:α} {r:Option β} (h:F x=none) (hg:G x=r):orF F G x=r:=by unfold orF; rw [h]; exact hg
section
variable (n N:Int) (P H:List UInt8) (e l:Bool) (f:Nat)
theorem yMc:oM f ((noA,noA,false,()),(false,(0,())),(N,(l,([],()))))=some (true,(false,0,())) :=
 Vx (if_pos ⟨rfl,rfl,rfl⟩)
theorem yMd:oM f ((Tn 1,noA,true,()),(false,(0,())),(N,(l,([],()))))=some (!decide (N=1),(false,0,())) :=
 Vy (if_neg (by rintro ⟨h,_⟩; simp at h)) (Vx (if_pos ⟨rfl,rfl,rfl⟩))
theorem yMe:oM f ((Pk,noA,false,()),(false,(0,())),(N,(l,([],()))))=some (l,(false,0,())) :=
 Vy (if_neg (by rintro ⟨h,_⟩; simp at h)) (Vy (if_neg (by rintro ⟨h,_⟩; simp at h)) (if_pos ⟨rfl,rfl,rfl⟩))
theorem zRq :
  dK 2000 (1,1,0,0,0,0,true,71,[],[],0,0,(-1),[],false,false,1,0,n,0,(-1),P,H,e,l,false,R3,[],false,[],csC,true,[],[],()) =
   some (!decide (n=1),1,0,n,0,(-1),P,H,e,l,false,[],false,[],csC,true,[],[],R3,()):=by
 have h:∀ m,dK (m+3) (1,1,0,0,0,0,true,71,[],[],0,0,(-1),[],false,false,1,0,n,0,(-1),P,H,e,l,false,R3,[],false,[],csC,true,[],[],()) =
   ob (oM (m+3) ((Tn 1,noA,true,()),(false,(0,())),(n,(l,([],()))))) fun y=>some (y.1,1,0,n,0,(-1),P,H,e,l,false,[],false,[],csC,true,[],[],R3.set 0 y.2,()):=fun _=>rfl
 rw [show (2000:Nat)=1997+3 from rfl,h,yMd]
 rfl
theorem zFe :
  dK 2000 (0,0,0,0,0,0,false,104,[],[],0,0,(-1),[],false,false,1,1,n,0,(-1),P,H,e,l,false,R3,[],false,[],csC,true,[],[],()) =
   some (true,1,1,n,0,(-1),P,H,e,l,false,[],false,[],csC,true,[],[],R3,()):=by
 have h:∀ m,dK (m+3) (0,0,0,0,0,0,false,104,[],[],0,0,(-1),[],false,false,1,1,n,0,(-1),P,H,e,l,false,R3,[],false,[],csC,true,[],[],()) =
   ob (oM (m+3) ((noA,noA,false,()),(false,(0,())),(n,(l,([],()))))) fun y=>some (y.1,1,1,n,0,(-1),P,H,e,l,false,[],false,[],csC,true,[],[],R3.set 1 y.2,()):=fun _=>rfl
 rw [show (2000:Nat)=1997+3 from rfl,h,yMc]
 rfl
theorem yGz :
  dK 2000 (2,0,0,0,0,0,false,112,[],[],0,0,(-1),[],false,false,1,2,n,0,(-1),P,H,e,l,false,R3,[],false,[],csC,true,[],[],()) =
   some (l,1,2,n,0,(-1),P,H,e,l,false,[],false,[],csC,true,[],[],R3,()):=by
 have h:∀ m,dK (m+3) (2,0,0,0,0,0,false,112,[],[],0,0,(-1),[],false,false,1,2,n,0,(-1),P,H,e,l,false,R3,[],false,[],csC,true,[],[],()) =
   ob (oM (m+3) ((Pk,noA,false,()),(false,(0,())),(n,(l,([],()))))) fun y=>some (y.1,1,2,n,0,(-1),P,H,e,l,false,[],false,[],csC,true,[],[],R3.set 2 y.2,()):=fun _=>rfl
 rw [show (2000:Nat)=1997+3 from rfl,h,yMe]
 rfl
theorem P_G:jG 112 2000 (jD,(true,((1,btC 0 n P H e l),[])))=br (!decide (n=1)) none (some ((1,btC 1 n P H e l),[],[])):=by
 unfold jG
 simp only
 rw [cK (by rfl),cK (by rfl),bB (by rfl),show bM (Ty.dflt aC) csC 0=cG from rfl]
 simp only [cG,Tn,noA]
 rw [zRq,dY]
 rfl
theorem H_G (h:P.length+H.length <= 100000):jH 71 2000 (jD,(true,((1,btC 0 n P H e l),[])))=br (!decide (n=1)) (some ((1,btC 1 n (P++([10]++H)) H e l),[],[])) (some ((1,btC 1 n P H e l),[],[])):=by
 unfold jH
 simp only
 rw [cK (by rfl),cK (by rfl),bB (by rfl),show bM (Ty.dflt aC) csC 0=cG from rfl]
 simp only [cG,Tn,noA]
 rw [zRq,dY]
 have hh:mH 2000 (1,1,0,0,0,0,true,71,[],[],0,0,(-1),[],false,false,1,1,n,0,(-1),P,H,e,l,false,[],false,[],csC,true,[],R3,[],()) =
   some (1,1,n,0,(-1),P++([10]++H),H,e,l,false,[],false,[],csC,true,[],R3,[],()):=by
  unfold mH
  simp only
  rw [cK (by rfl),kP (by rfl),bB (decide_eq_true (by simp [iN]; omega)),bB (decide_eq_true (by simp [iN]; omega))]
 simp only
 rw [show IntKind.wrap .i64 (0+1)=1 from rfl,bB (by rfl),hh,dY]
 rfl
theorem s_G (h:P.length+H.length <= 100000):mI 2000 (jD,(true,((1,btC 0 n P H e l),[])))=some ((1,btC 1 n (if n=1 then P else P++([10]++H)) H e l),[],[]):=by
 by_cases hn:n=1
 ·exact Vx (by rw [P_G,cK (by simp [hn]),if_pos hn])
 ·exact Vy (by rw [P_G,kP (by simp [hn])]) (Vx (by rw [H_G n P H e l h,kP (by simp [hn]),if_neg hn]))
theorem P_H:jG 112 2000 (jD,(true,((1,btC 1 n P H e l),[])))=none:=by
 unfold jG
 simp only
 rw [cK (by rfl),cK (by rfl),bB (by rfl),show bM (Ty.dflt aC) csC 1=cH from rfl]
 simp only [cH,noA]
 rw [zFe,dY]
 rfl
theorem yOa:jH 71 2000 (jD,(true,((1,btC 1 n P H e l),[])))=none:=by
 unfold jH
 simp only
 rw [cK (by rfl),cK (by rfl),bB (by rfl),show bM (Ty.dflt aC) csC 1=cH from rfl]
 simp only [cH,noA]
 rw [zFe,dY]
 rfl
theorem H_H:jH 104 2000 (jD,(true,((1,btC 1 n P H e l),[])))=some ((1,btC 2 n P P e l),[],[]):=by
 unfold jH
 simp only
 rw [cK (by rfl),cK (by rfl),bB (by rfl),show bM (Ty.dflt aC) csC 1=cH from rfl]
 simp only [cH,noA]
 rw [zFe,dY]
 rfl
theorem s_H:mI 2000 (jD,(true,((1,btC 1 n P H e l),[])))=some ((1,btC 2 n P P e l),[],[]):=by
 exact Vy (P_H n P H e l) (Vy (yOa n P H e l) (H_H n P H e l))
theorem s_P:mI 2000 (jD,(true,((1,btC 2 n P H e l),[])))=some ((1,btC 3 n P H e l),[],if l then [(P,(e,()))] else []):=by
 have h:jG 112 2000 (jD,(true,((1,btC 2 n P H e l),[])))=some ((1,btC 3 n P H e l),[],if l then [(P,(e,()))] else []):=by
  unfold jG
  simp only
  rw [cK (by rfl),cK (by rfl),bB (by rfl),show bM (Ty.dflt aC) csC 2=cP from rfl]
  simp only [cP,noA,Pk]
  rw [yGz,dY]
  cases l <;> rfl
 exact Vx h
theorem s_E:mI 2000 (jD,(true,((1,btC 3 n P H e l),[])))=some ((0,btC 3 n P H e l),[],[]):=by
 have h:jG 112 2000 (jD,(true,((1,btC 3 n P H e l),[])))=some ((0,btC 3 n P H e l),[],[]):=by kernel_rfl
 exact Vx h
end
end Go.Dec
namespace Go.Dec
abbrev stC:aW:=iH jD true
theorem yKo {c:UInt8} {r:List UInt8} (h:(c :: r).length <= 400):strings_Cut 2000 (c :: r,[10])=some ((dA (c :: r)).1,(dA (c :: r)).2.1,(dA (c :: r)).2.2):=by
 unfold strings_Cut
 rw [bB (decide_eq_true (by simp only; omega)),zKy]
theorem zHp:∀ s:List UInt8,(dA s).1.length+(dA s).2.1.length <= s.length
 | []=>by simp [dA]
 | b :: r=>by
  have:=zHp r
  unfold dA
  split
  ·simp
  ·simp only [List.length_cons]; omega
theorem yMf {n:Int} (h0:0 <= n) (h1:n <= 100000):w1 n=n+1:=Nq (by omega) (by omega)
def Eb:Bool->List UInt8->List jC->List UInt8
 | _,H,[]=>H
 | f,H,x :: r=>Eb false (if f then x.1 else x.1++([10]++H)) r
def Kh:Bool->List jC->Bool
 | e,[]=>e
 | _,x :: r=>Kh x.2.1 r
theorem goC:∀ (s:Nat) (d:List UInt8) (out:List jC) (pc n:Int) (P H:List UInt8) (e l f:Bool) (k:Nat) (st wk:Int),d.length <= s->d.length <= 400->H.length+2 * d.length <= 900->k+5 * d.length+3 <= 1900->out.length <= 1->(d=[]∨out.length=0)->0 <= n->n+d.length <= 100000->f=decide (n=0) ->
  ∃ bt st' wk',fix (gL 2000) (2000 - k) (zOj (k:Int) (lV stC true (0,btC pc n P H e l) d out st wk 0)) =
   some (lV stC true (4,bt) [] (out++(if bF d=[] then [] else [(Eb f H (bF d),(Kh e (bF d),()))])) st' wk' 0,0)
 | s,[],out,pc,n,P,H,e,l,f,k,st,wk,_,_,_,hk,_,_,_,_,_=>by
  refine ⟨btC pc n P H e l,w1 st,wk,?_⟩
  simp only [List.length_nil] at hk
  rw [vQ (by omega) (by omega) (by omega) (zRp jD true (btC pc n P H e l) out st wk 0) (step_end jD true (btC pc n P H e l) out st wk 0)]
  rw [yDc (by omega) (yKn jD true (btC pc n P H e l) [] out (w1 st) wk 0)]
  simp [Df]
 | 0,c :: r,_,_,_,_,_,_,_,_,_,_,_,h,_,_,_,_,_,_,_,_=>by simp at h
 | s+1,c :: r,out,pc,n,P,H,e,l,f,k,st,wk,hs,hd,hH,hk,ho,ho2,hn,hn2,hf=>by
  have ho2:out.length=0:=by rcases ho2 with h | h; exact absurd h (by simp); exact h
  have hne:c :: r ≠ []:=by simp
  have hsh:=Jf hne
  have hc:=yKo hd
  have hsp:=Dc hne
  have hln:=zHp (c :: r)
  generalize hu:dA (c :: r)=u at hc hsp hsh hln
  obtain ⟨t,v,b⟩:=u
  simp only at hc hsp hsh
  have hln:t.length+v.length <= (c :: r).length:=hln
  have hlen:(c :: r).length=r.length+1:=rfl
  have hw:w1 n=n+1:=yMf hn (by omega)
  have hsum:(if n+1=1 then t else t++([10]++H)).length <= t.length+1+H.length:=by
   split
   ·omega
   ·simp only [List.length_append,List.length_cons,List.length_nil]; omega
  have hfi:(if n+1=1 then t else t++([10]++H))=(if f then t else t++([10]++H)):=by
   subst hf
   by_cases h0:n=0
   ·simp [h0]
   ·have:¬ (n+1=1):=by omega
    simp [h0,this]
  have h1:=s_G (n+1) t H b (v == []) (by omega)
  generalize hQ:(if n+1=1 then t else t++([10]++H))=Q at h1 hsum hfi
  have h2:=s_H (n+1) Q H b (v == [])
  have h3:=s_P (n+1) Q Q b (v == [])
  have h4:=s_E (n+1) Q Q b (v == [])
  have hvo:(out++(if (v == [])=true then [(Q,(b,()))] else [])).length <= 2:=by split <;> simp <;> omega
  rw [vQ (by omega) (by omega) (by omega) (zZh jD true (btC pc n P H e l) out st wk 0 hc) (step_take jD true (btC pc n P H e l) out st wk 0 hc)]
  rw [show took (btC pc n P H e l) t b (v == [])=(1,btC 0 (n+1) t H b (v == [])) from by rw [<- hw]]
  rw [vQ (by omega) (by omega) (by omega) (Us jD true (btC 0 (n+1) t H b (v == [])) v out _ _ 0) (Qj jD true _ v out _ _ 0 h1 (by simp; omega) (by rfl))]
  rw [vQ (by omega) (by omega) (by omega) (Us jD true (btC 1 (n+1) Q H b (v == [])) v _ _ _ 0) (Qj jD true _ v _ _ _ 0 h2 (by simp; omega) (by rfl))]
  rw [vQ (by omega) (by omega) (by omega) (Us jD true (btC 2 (n+1) Q Q b (v == [])) v _ _ _ 0) (Qj jD true _ v _ _ _ 0 h3 (by simp only [List.append_nil]; rw [List.length_append] at hvo; omega) (by rfl))]
  rw [vQ (by omega) (by omega) (by omega) (Us jD true (btC 3 (n+1) Q Q b (v == [])) v _ _ _ 0) (Qj jD true _ v _ _ _ 0 h4 (by simp only [List.append_nil,List.length_nil]; omega) (by rfl))]
  rw [show 2000 - k - 1 - 1 - 1 - 1 - 1=2000 - (k+5) by omega,show (k:Int)+1+1+1+1+1=((k+5:Nat):Int) by omega]
  simp only [List.append_nil]
  cases v with
  | nil =>
   obtain ⟨bt,st',wk',ih⟩:=goC s [] (out++[(Q,(b,()))]) 3 (n+1) Q Q b true false (k+5) (w1 (w1 (w1 (w1 (w1 st))))) (w1 (w1 (w1 (w1 wk)))) (by simp) (by simp) (by simp only [List.length_nil]; omega) (by simp only [List.length_nil]; omega) (by simp only [List.length_append,List.length_cons,List.length_nil]; omega) (.inl rfl) (by omega) (by simp; omega) (by simp; omega)
   exact ⟨bt,st',wk',by
    rw [hsp,Df]
    simp only [Df,if_true,List.append_nil] at ih
    simp only [beq_self_eq_true,if_true,Eb,Kh,if_neg (List.cons_ne_nil _ _),<- hfi]
    exact ih⟩
  | cons x v =>
   obtain ⟨bt,st',wk',ih⟩:=goC s (x :: v) out 3 (n+1) Q Q b false false (k+5) (w1 (w1 (w1 (w1 (w1 st))))) (w1 (w1 (w1 (w1 wk)))) (by omega) (by omega) (by omega) (by omega) ho (.inr ho2) (by omega) (by omega) (by simp; omega)
   exact ⟨bt,st',wk',by
    have hsn:bF (x :: v) ≠ []:=by rw [Dc (by simp)]; simp
    rw [hsp]
    rw [if_neg hsn] at ih
    simp only [Eb,Kh,if_neg (List.cons_ne_nil _ _),<- hfi,show ((x :: v) == ([]:List UInt8))=false from rfl,if_false,Bool.false_eq_true,List.append_nil]
    exact ih⟩
theorem yMg (inp:List UInt8):Gg 2000 ([stC],inp,[],false)=some (lV stC false (0,btC 0 0 [] [] false false) inp [] 0 0 0,0):=by kernel_rfl
theorem yHa {inp:List UInt8} (h:inp.length <= 120):∃ bt st wk,Gn 2000 (lV stC false (0,btC 0 0 [] [] false false) inp [] 0 0 0,5000) =
  some (lV stC true (4,bt) [] (if bF inp=[] then [] else [(Eb true [] (bF inp),(Kh false (bF inp),()))]) st wk 0,0):=by
 obtain ⟨bt,st,wk,hg⟩:=goC inp.length inp [] 0 0 [] [] false false true 1 (w1 0) 0 (Nat.le_refl _) (by omega) (by simp; omega) (by omega) (by simp) (.inr rfl) (by omega) (by omega) (by simp)
 refine ⟨bt,st,wk,?_⟩
 have hb:nK 2000 (stC,[])=some []:=if_pos rfl
 show fix (gL 2000) 2000 (zOj 0 (lV stC false (0,btC 0 0 [] [] false false) inp [] 0 0 0))=_
 rw [vQ (by omega) (by omega) (by omega) (zZg jD true (btC 0 0 [] [] false false) inp [] 0 0 0) (zWi jD true (btC 0 0 [] [] false false) inp [] 0 0 0 hb)]
 exact hg
def Gt:List jC->List UInt8
 | []=>[]
 | x :: r=>Gt r++(x.1++[10])
def Ki:List jC->List UInt8
 | []=>[]
 | x :: r=>Gt r++x.1
theorem zHq:∀ (l:List jC) (H:List UInt8),Eb false H l=Gt l++H
 | [],H=>rfl
 | x :: r,H=>by
  simp only [Eb,Bool.false_eq_true,if_false,zHq r,Gt]
  simp
theorem yHb:∀ l:List jC,Eb true [] l=Ki l
 | []=>rfl
 | x :: r=>by simp only [Eb,if_true,zHq r,Ki]
theorem Zl:∀ l:List jC,(Gt l).length=iI l
 | []=>rfl
 | x :: r=>by simp only [Gt,iI,List.length_append,Zl r,List.length_cons,List.length_nil]; omega
theorem yDe (l:List jC):(Ki l).length <= iI l:=by
 cases l with
 | nil=>simp [Ki]
 | cons x r=>simp only [Ki,iI,List.length_append,Zl]; omega
theorem zHr:∀ (l:List jC),iI l <= (joinL l).length+l.length
 | []=>by simp [iI]
 | e :: r=>by
  have:=zHr r
  simp only [iI,joinL,List.flatMap_cons,List.length_append,zIt,List.length_cons] at *
  omega
theorem yEt {l:List jC} (hl:l.length <= 400) (hs:iI l <= 10000) (s:List UInt8):∀ (m:Nat) (suf:List jC) (pre:List jC),l=pre++suf->pre ≠ []->pre.length < m ->
  fix (lH 2000) m (l,s,true,Gt suf,(pre.length:Int) - 1,())=fix (lH 2000) (m - pre.length) (l,s,true,Ki l,-1,())
 | 0,_,_,_,_,h=>by omega
 | m+1,suf,pre,hp,hne,hm=>by
  obtain ⟨q,e,rfl⟩:∃ q e,pre=q++[e]:=⟨pre.dropLast,pre.getLast hne,(List.dropLast_concat_getLast hne).symm⟩
  have hp2:l=q++e :: suf:=by rw [hp]; simp
  have hlen:l.length=q.length+suf.length+1:=by rw [hp2]; simp; omega
  have hsum:iI l=iI q+(e.1.length+1+iI suf):=by rw [hp2,Qk]; rfl
  have hrn:=Zl suf
  have e1:(((q++[e]).length:Nat):Int) - 1=(q.length:Int):=by simp
  rw [e1,yJ (by omega),lH]
  simp only
  rw [kP (decide_eq_true (by omega)),bB (yBb (by omega)),Ti hp2,bB (decide_eq_true (by simp [iN]; omega))]
  by_cases hq:q=[]
  ·subst hq
   rw [cK (by simp),show IntKind.wrap .i64 ((([]:List jC).length:Int) - 1)=-1 from rfl]
   have:l=e :: suf:=by simpa using hp2
   rw [this]
   rfl
  ·have hq0:0 < q.length:=List.length_pos_iff.2 hq
   rw [kP (decide_eq_true (by omega)),bB (decide_eq_true (by simp [iN]; omega)),Nq (by omega) (by omega)]
   have ih:=yEt hl hs s m (e :: suf) q hp2 hq (by simp at hm; omega)
   rw [show Gt (e :: suf)=Gt suf++e.1++[10] by simp [Gt]] at ih
   have e2:m+1 - (q++[e]).length=m - q.length:=by simp
   rw [e2]
   exact ih
theorem zHs:∀ (l:List jC) (x:jC) (e:Bool),Kh e (l++[x])=x.2.1
 | [],_,_=>rfl
 | _ :: r,x,_=>zHs r x _
theorem Xl (inp:List UInt8) (hw:inp.length < 1048576):Qb 2000 inp=some true:=by
 unfold Qb
 simp only
 rw [show jF 2000 inp=some (bF inp) from by unfold jF; rw [bB (decide_eq_true (by omega))],dY]
 by_cases h:120 < inp.length
 ·rw [kP (decide_eq_true (by omega))]; rfl
 rw [cK (decide_eq_false (by omega))]
 by_cases h25:25 < (bF inp).length
 ·rw [kP (decide_eq_true (by omega))]; rfl
 rw [cK (decide_eq_false (by omega)),show showntop 2000 ()=some true from rfl,dY,cK (by rfl)]
 have h3:=zHr (bF inp)
 rw [Sg] at h3
 obtain ⟨bt,st,wk,hr⟩:=yHa (inp:=inp) (by omega)
 have hp:nJ 2000 ([115,101,100,32,45,110,32,39,49,33,71,59,104,59,36,112,39],[])=some ([stC],0,0):=if_pos rfl
 have hJ:=yDe (bF inp)
 rw [yHb] at hr
 have hb:pF 2000 (if bF inp=[] then [] else [(Ki (bF inp),(Kh false (bF inp),()))])=some (Ki (bF inp)++(if bF inp=[] then [] else if Kh false (bF inp) then [10] else [])):=by
  rw [yGx (by split <;> simp) (by split <;> simp only [iI] <;> omega) (by omega)]
  split
  ·rename_i hn
   simp [uP,hn,Ki]
  ·cases Kh false (bF inp) <;> simp [uP]
 rw [yGy hp (yMg inp) hr hb,dY]
 generalize bF inp=l at *
 by_cases hn:l=[]
 ·subst hn
  rfl
 have hl0:0 < l.length:=List.length_pos_iff.2 hn
 rw [Nq (by omega) (by omega)]
 have hg:=yEt (l:=l) (by omega) (by omega) (Ki l++(if l=[] then [] else if Kh false l then [10] else [])) 2000 [] l (by simp) hn (by omega)
 simp only [Gt] at hg
 rw [hg,yJ (by omega),lH]
 simp only
 obtain ⟨q,x,rfl⟩:∃ q x,l=q++[x]:=⟨l.dropLast,l.getLast hn,(List.dropLast_concat_getLast hn).symm⟩
 have e1:(((q++[x]).length:Nat):Int)=(q.length:Int)+1:=by simp
 rw [cK (by rfl),kP (decide_eq_true (by omega)),Nq (by omega) (by omega),e1,show (q.length:Int)+1 - 1=q.length by omega,bB (yBb (by simp)),Ti (show q++[x]=q++x :: [] by simp),zHs,if_neg hn]
 cases hx:x.2.1 with
 | true=>rw [zTo,bB (decide_eq_true (by simp [iN] at *; omega)),zTo]; simp
 | false=>rw [yIk,zTo]; simp
end Go.Dec
