/- Part of a proof over this seat: a library of my own, and what it says of this seat. No statement is proved here. -/
import Derived.Test.YtdgneppobefaoaaGreatDoorPartBR
import Derived.Test.YtdgneppobefaoaaGreatDoorPartBA
import Derived.KernelRfl
namespace Go.Dec
abbrev iJ:Type:=List UInt8 × Bool × Unit
abbrev BtD:Type:=Int × Int × Int × Int × List UInt8 × List UInt8 × Bool × Bool × Bool × List (Bool × Int × Unit) × List iJ × Unit
abbrev BkD:Type:=Int × BtD
abbrev iK (scr:zEp) (q:Bool):aY:=(scr,(q,([],(false,()))))
abbrev lQ (g:aY) (bg:Bool) (b:BkD) (d:List UInt8) (out:List iJ) (st wk hd:Int):bF [gG] :=
 ([g],([false],(false,([b],([bg],([[]],([(d,(false,(true,())))],(out,([],([0],(st,(wk,(hd,())))))))))))))
section
variable (scr:zEp) (q:Bool) (bt:BtD) (d:List UInt8) (out:List iJ) (st wk hd:Int)
theorem zYv:gM 2000 (lQ (iK scr q) false (0,bt) d out st wk hd)=some 0:=by kernel_rfl
theorem zNq:gM 2000 (lQ (iK scr q) true (1,bt) d out st wk hd)=some 0:=by kernel_rfl
theorem yJy:gM 2000 (lQ (iK scr q) true (4,bt) d out st wk hd)=some (-1):=by kernel_rfl
theorem zQz:gM 2000 (lQ (iK scr q) true (0,bt) [] out st wk hd)=some 0:=by kernel_rfl
theorem yGk (l:List iJ):iY 2000 l=some l:=by
 unfold iY
 exact bK (by simp) _
theorem zCz (g:aY) (bg:Bool) (b:BkD):kX 2000 ([g],[false],false,[b],[bg],[[]],[(d,(false,(true,())))],out,[],[0],st,wk,hd,()) =
  some ([g],[false],false,out,[],st,wk,hd,[b],[bg],[[]],[(d,(false,(true,())))],[0],()):=by
 have h:kX 2000 ([g],[false],false,[b],[bg],[[]],[(d,(false,(true,())))],out,[],[0],st,wk,hd,()) =
  ob (iY 2000 out) fun y=>some ([g],[false],false,y,[],st,wk,hd,[b],[bg],[[]],[(d,(false,(true,())))],[0],()):=by kernel_rfl
 rw [h,yGk,eH]
theorem zNr {c:UInt8} {r:List UInt8} {t u:List UInt8} {e:Bool} (h:strings_Cut 2000 (c :: r,[10])=some (t,u,e)):nM 2000 (c :: r,(false,(true,())))=some ((u,(false,(true,()))),(t,(e,())),(u == []),true):=by
 unfold nM
 simp only
 rw [h,eH]
 cases u with
 | nil=>rfl
 | cons x y=>rfl
theorem zYw {c:UInt8} {r:List UInt8} {t u:List UInt8} {e:Bool} (h:strings_Cut 2000 (c :: r,[10])=some (t,u,e)):gM 2000 (lQ (iK scr q) true (0,bt) (c :: r) out st wk hd)=some 0:=by
 have h1:oF 2000 (0,[iK scr q],[false],false,[(0,bt)],[true],[[]],[(c :: r,(false,(true,())))],out,[],[0],st,wk,hd,()) =
   ob (rU 2000 (c :: r,(false,(true,())))) fun y=>br y.2.2 (some (true,[iK scr q],[false],false,[(0,bt)],[true],[[]],[(c :: r,(false,(true,())))],out,[],[0],st,wk,hd,())) (ob (Cn 2000 (c :: r,(false,(true,())))) fun z=>some (z,[iK scr q],[false],false,[(0,bt)],[true],[[]],[(c :: r,(false,(true,())))],out,[],[0],st,wk,hd,())):=by kernel_rfl
 have h2:rU 2000 (c :: r,(false,(true,())))=some ((t,(e,())),(u == []),true):=by
  unfold rU
  simp only
  rw [zNr h,eH]
 rw [h2,eH,pX rfl] at h1
 unfold gM
 simp only
 rw [rJ (by omega),Hg]
 simp only
 rw [pX (by rfl)]
 rw [show IntKind.wrap .i64 (([iK scr q].length:Int) - 1)=0 from rfl,h1,eH,pX rfl]
theorem zVw (hb:kW 2000 (iK scr q,[])=some []):iM 2000 (lQ (iK scr q) false (0,bt) d out st wk hd)=some (lQ (iK scr q) true (0,bt) d out (IntKind.wrap .i64 (st+1)) wk hd):=by
 unfold iM
 simp only
 rw [zYv,eH,fO (by rfl),zCz,eH]
 rw [bK (by rfl),bK (by rfl),pX (by rfl)]
 unfold mD
 simp only
 rw [bK (by rfl),bK (by rfl),bK (by rfl),fO (by rfl)]
 rw [show bV (Ty.dflt aG) [iK scr q] 0=iK scr q from rfl,hb,eH,fO (by rfl),eH]
 rfl
end
end Go.Dec
namespace Go.Dec
theorem zDa {α β:Type} {x:Option α} {y:α} {k:α->Option β} {r:Option β} (h:x=some y) (hk:k y=r):ob x k=r:=by rw [h,eH]; exact hk
theorem yLo {α:Type} {c:Bool} {x y r:Option α} (h:c=false) (hy:y=r):br c x y=r:=by rw [fO h]; exact hy
section
variable (scr:zEp) (q:Bool) (bt:BtD) (d:List UInt8) (out:List iJ) (st wk hd:Int)
abbrev w1 (n:Int):Int:=IntKind.wrap .i64 (n+1)
theorem yGl (g:aY) (b:BkD) (o:List iJ) (ho:out.length+o.length <= 1000):jZ 2000 (0,o,[g],[false],false,out,[],st,wk,hd,[b],[true],[[]],[(d,(false,(true,())))],[0],()) =
  some ([g],[false],false,out++o,[],st,wk,hd,[b],[true],[[]],[(d,(false,(true,())))],[0],()):=by
 unfold jZ
 simp only
 rw [pX (by rfl),bK (Nat.ble_eq_true_of_le (by unfold room; omega))]
theorem run_eq {b':BkD} {o:List iJ} (h:nN 2000 (scr,(q,((1,bt),[])))=some (b',[],o)) (ho:out.length+o.length <= 1000) (h4:(b'.1 == 4)=false) :
  kZ 2000 (0,[iK scr q],[false],false,out,[],st,wk,hd,[(1,bt)],[true],[[]],[(d,(false,(true,())))],[0],()) =
  some ([iK scr q],[false],false,out++o,[],st,w1 wk,hd,[b'],[true],[[]],[(d,(false,(true,())))],[0],()):=by
 unfold kZ
 simp only
 rw [bK (by rfl),bK (by rfl),bK (by rfl)]
 refine zDa h ?_
 dsimp only
 rw [bK (by rfl),bK (by rfl)]
 refine zDa (yGl d out st _ hd (iK scr q) b' o ho) ?_
 dsimp only
 unfold kL
 simp only
 rw [bK (by rfl),bK (by rfl),eH]
 exact yLo h4 rfl
theorem zNs {b':BkD} {o:List iJ} (h:nN 2000 (scr,(q,((1,bt),[])))=some (b',[],o)) (ho:out.length+o.length <= 1000) (h4:(b'.1 == 4)=false) :
  iM 2000 (lQ (iK scr q) true (1,bt) d out st wk hd)=some (lQ (iK scr q) true b' d (out++o) (w1 st) (w1 wk) hd):=by
 unfold iM
 simp only
 rw [zNq,eH,fO (by rfl),zCz,eH]
 rw [bK (by rfl),bK (by rfl),fO (by rfl),bK (by rfl),bK (by rfl),pX (by rfl)]
 rw [run_eq scr q bt d out _ wk hd h ho h4,eH]
abbrev took (bt:BtD) (t:List UInt8) (e l:Bool):BkD:=(1,(0,(w1 bt.2.1,(bt.2.2.1,(bt.2.2.2.1,(t,(bt.2.2.2.2.2.1,(e,(l,bt.2.2.2.2.2.2.2.2)))))))))
theorem step_take {c:UInt8} {r t u:List UInt8} {e:Bool} (h:strings_Cut 2000 (c :: r,[10])=some (t,u,e)) :
  iM 2000 (lQ (iK scr q) true (0,bt) (c :: r) out st wk hd)=some (lQ (iK scr q) true (took bt t e (u == [])) u out (w1 st) wk hd):=by
 unfold iM
 simp only
 rw [zYw scr q bt out st wk hd h,eH,fO (by rfl),zCz,eH]
 rw [bK (by rfl),bK (by rfl),fO (by rfl),bK (by rfl),bK (by rfl),fO (by rfl)]
 unfold mQ
 simp only
 rw [bK (by rfl),pX (by rfl),bK (by rfl),bK (by rfl)]
 rw [show nM 2000 (([((c :: r:List UInt8),(false,(true,())))].getD (0+(0:Int).toNat) (Ty.dflt aO)).1,(([((c :: r:List UInt8),(false,(true,())))].getD (0+(0:Int).toNat) (Ty.dflt aO)).2.1,(([((c :: r:List UInt8),(false,(true,())))].getD (0+(0:Int).toNat) (Ty.dflt aO)).2.2.1,())))=_ from zNr h,eH]
 rw [bK (by rfl),bK (by rfl),eH,pX (by rfl),bK (by rfl),bK (by rfl)]
 unfold Hr
 simp only
 rw [pX (by rfl),eH,bK (by rfl),bK (by rfl)]
 rfl
theorem step_end:iM 2000 (lQ (iK scr q) true (0,bt) [] out st wk hd)=some (lQ (iK scr q) true (4,bt) [] out (w1 st) wk hd):=by
 unfold iM
 simp only
 rw [zQz,eH,fO (by rfl),zCz,eH]
 kernel_rfl
end
abbrev zNt (k:Int) (m:bF [gG]):=((5000:Int),k,m.1,m.2.1,m.2.2.1,m.2.2.2.1,m.2.2.2.2.1,m.2.2.2.2.2.1,m.2.2.2.2.2.2.1,m.2.2.2.2.2.2.2.1,m.2.2.2.2.2.2.2.2.1,m.2.2.2.2.2.2.2.2.2.1,m.2.2.2.2.2.2.2.2.2.2.1,m.2.2.2.2.2.2.2.2.2.2.2.1,m.2.2.2.2.2.2.2.2.2.2.2.2.1,([]:List aY),([]:List Bool),false,([]:List Bool),([]:List (List iJ)),([]:List (List UInt8 × Bool × Bool × Unit)),([]:List zEq),([]:List Int),(0:Int),(0:Int),(0:Int),([]:List BkD),([]:List iJ),())
theorem Fa {m m':bF [gG]} {k:Int} {f:Nat} (hf:0 < f) (hk:k < 5000) (h0:0 <= k) (hn:gM 2000 m=some 0) (hs:iM 2000 m=some m') :
  fix (gN 2000) f (zNt k m)=fix (gN 2000) (f - 1) (zNt (k+1) m'):=by
 rw [rJ hf,gN]
 dsimp only
 refine zDa hn ?_
 rw [pX (by rfl),fO (decide_eq_false (by omega))]
 refine zDa hs ?_
 rw [Un (by omega) (by omega)]
theorem yCq {m:bF [gG]} {k:Int} {f:Nat} (hf:0 < f) (hn:gM 2000 m=some (-1)):fix (gN 2000) f (zNt k m)=some (m,0):=by
 rw [rJ hf,gN]
 dsimp only
 refine zDa hn ?_
 rw [fO (by rfl)]
end Go.Dec
