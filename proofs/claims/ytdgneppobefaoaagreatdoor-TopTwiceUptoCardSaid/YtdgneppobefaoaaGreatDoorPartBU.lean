/- Part of a proof over this seat: a library of my own, and what it says of this seat. No statement is proved here. -/
import Derived.Test.YtdgneppobefaoaaGreatDoorPartBR
import Derived.Test.YtdgneppobefaoaaGreatDoorPartBA
namespace Go.Dec
abbrev Vg:Type:=List UInt8 × Bool × Unit
def oU:List UInt8->List Vg->List UInt8
 | _,[]=>[]
 | g,e :: r=>g++e.1++(if e.2.1 then [10]++oU [] r else oU [10] r)
def fC:List Vg->Nat
 | []=>0
 | e :: r=>e.1.length+1+fC r
theorem Fb:∀ (a b:List Vg),fC (a++b)=fC a+fC b
 | [],b=>by simp [fC]
 | e :: a,b=>by simp only [List.cons_append,fC,Fb a b]; omega
theorem zVx {n:Nat} {s:List UInt8} {a:List UInt8} (h:a.length+s.length <= 1000000):bR n (s,aV a,())=some ((s.length:Int),false,aV (a++s),()):=by
 unfold bR jV
 simp only [eH]
 rw [bK (by simp only [Ry]; simp [room]; omega),Gz]
theorem yCr {n:Nat} {l:List Vg} (hl:l.length <= 1000) (hs:fC l <= 10000):∀ (r pre:List Vg) (g a:List UInt8) (m:Nat),l=pre++r->r.length < m->a.length+g.length <= fC pre ->
  fix (lC n) m (g,l,(l.length:Int),(pre.length:Int),aV a,())=some (a++oU g r):=by
 intro r
 induction r with
 | nil =>
  intro pre g a m hp hm ha
  have hp:pre=l:=by simpa using hp.symm
  subst hp
  rw [rJ (by omega),lC]
  simp only
  rw [fO (by simp),Wp]
  simp [oU]
 | cons e r ih =>
  intro pre g a m hp hm ha
  have hm':r.length+1 < m:=hm
  have hlen:l.length=pre.length+r.length+1:=by rw [hp]; simp; omega
  have hsum:fC l=fC pre+(e.1.length+1+fC r):=by rw [hp,Fb]; rfl
  have hsp:fC (pre++[e])=fC pre+(e.1.length+1):=by rw [Fb]; simp [fC]
  have hi:∀ (g' a':List UInt8),a'.length+g'.length <= fC (pre++[e])->fix (lC n) (m - 1) (g',l,(l.length:Int),(pre.length:Int)+1,aV a',())=some (a'++oU g' r):=fun g' a' h1=>by
   have:=ih (pre++[e]) g' a' (m - 1) (by rw [hp]; simp) (by omega) h1
   rwa [show ((pre++[e]).length:Int)=(pre.length:Int)+1 by simp] at this
  rw [rJ (by omega),lC]
  simp only
  rw [pX (decide_eq_true (by omega)),bK (zSz (by omega)),Rx hp,bK (decide_eq_true (by simp [Jg]; omega)),zVx (by simp; omega)]
  simp only [eH]
  cases he:e.2.1 with
  | true =>
   simp only [yAr]
   rw [zVx (by simp; omega)]
   simp only [eH]
   rw [Un (by omega) (by omega),hi _ _ (by simp; omega)]
   simp [oU,he]
  | false =>
   simp only [yHy]
   rw [Un (by omega) (by omega),hi _ _ (by simp; omega)]
   simp [oU,he]
theorem yGm {n:Nat} {l:List Vg} (hl:l.length <= 1000) (hs:fC l <= 10000) (hn:1500 <= n):rW n l=some (oU [] l):=by
 unfold rW
 exact yCr (n:=n) hl hs l [] [] [] n rfl (by omega) (by simp [fC])
end Go.Dec
