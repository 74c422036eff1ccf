/- Part of a proof over this seat: a library of my own, and what it says of this seat. No statement is proved here. -/
import Derived.Test.YtfpipcafiocdoaaGreatDoorPartBS
import Derived.Test.YtfpipcafiocdoaaGreatDoorPartBA
namespace Go.Dec
abbrev Kk:Type:=List UInt8 × Bool × Unit
def nT:List UInt8->List Kk->List UInt8
 | _,[]=>[]
 | g,e :: r=>g++e.1++(if e.2.1 then [10]++nT [] r else nT [10] r)
def lG:List Kk->Nat
 | []=>0
 | e :: r=>e.1.length+1+lG r
theorem Od:∀ (a b:List Kk),lG (a++b)=lG a+lG b
 | [],b=>by simp [lG]
 | e :: a,b=>by simp only [List.cons_append,lG,Od a b]; omega
theorem zQp {n:Nat} {s:List UInt8} {a:List UInt8} (h:a.length+s.length <= 1000000):bQ n (s,aO a,())=some ((s.length:Int),false,aO (a++s),()):=by
 unfold bQ qA
 simp only [jW]
 rw [dH (by simp only [zBn]; simp [room]; omega),Qw]
theorem zPs {n:Nat} {l:List Kk} (hl:l.length <= 1000) (hs:lG l <= 10000):∀ (r pre:List Kk) (g a:List UInt8) (m:Nat),l=pre++r->r.length < m->a.length+g.length <= lG pre ->
  fix (jO n) m (g,l,(l.length:Int),(pre.length:Int),aO a,())=some (a++nT g r):=by
 intro r
 induction r with
 | nil =>
  intro pre g a m hp hm ha
  have hp:pre=l:=by simpa using hp.symm
  subst hp
  rw [Jo (by omega),jO]
  simp only
  rw [gN (by simp),zDq]
  simp [nT]
 | cons e r ih =>
  intro pre g a m hp hm ha
  have hm':r.length+1 < m:=hm
  have hlen:l.length=pre.length+r.length+1:=by rw [hp]; simp; omega
  have hsum:lG l=lG pre+(e.1.length+1+lG r):=by rw [hp,Od]; rfl
  have hsp:lG (pre++[e])=lG pre+(e.1.length+1):=by rw [Od]; simp [lG]
  have hi:∀ (g' a':List UInt8),a'.length+g'.length <= lG (pre++[e])->fix (jO n) (m - 1) (g',l,(l.length:Int),(pre.length:Int)+1,aO a',())=some (a'++nT g' r):=fun g' a' h1=>by
   have:=ih (pre++[e]) g' a' (m - 1) (by rw [hp]; simp) (by omega) h1
   rwa [show ((pre++[e]).length:Int)=(pre.length:Int)+1 by simp] at this
  rw [Jo (by omega),jO]
  simp only
  rw [kH (decide_eq_true (by omega)),dH (yDm (by omega)),zLq hp,dH (decide_eq_true (by simp [gL]; omega)),zQp (by simp; omega)]
  simp only [jW]
  cases he:e.2.1 with
  | true =>
   simp only [yDk]
   rw [zQp (by simp; omega)]
   simp only [jW]
   rw [Cz (by omega) (by omega),hi _ _ (by simp; omega)]
   simp [nT,he]
  | false =>
   simp only [yDl]
   rw [Cz (by omega) (by omega),hi _ _ (by simp; omega)]
   simp [nT,he]
theorem Ui {n:Nat} {l:List Kk} (hl:l.length <= 1000) (hs:lG l <= 10000) (hn:1500 <= n):kL n l=some (nT [] l):=by
 unfold kL
 exact zPs (n:=n) hl hs l [] [] [] n rfl (by omega) (by simp [lG])
end Go.Dec
