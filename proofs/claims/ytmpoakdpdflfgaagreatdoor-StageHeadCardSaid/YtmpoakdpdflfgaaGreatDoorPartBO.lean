/- Part of a proof over this seat: a library of my own, and what it says of this seat. No statement is proved here. -/
import Derived.Test.YtmpoakdpdflfgaaGreatDoorPartBJ
import Derived.Test.YtmpoakdpdflfgaaGreatDoorPartBN
namespace Go.Dec
abbrev Yh:Type:=(zGa × zGa × Bool × Unit) × (Bool × Int × Unit) × (Int × Bool × List Bool × Unit)
section
open Classical
noncomputable def zNp (x:Yh):Option (Bool × (Bool × Int × Unit)) :=
 if x.1=((0,0,0,()),(0,0,0,()),false,())∧x.2.1=(false,0,())∧x.2.2.2.2.1=[] then some (true,(false,0,())) else none
noncomputable def zNq (x:Yh):Option (Bool × (Bool × Int × Unit)) :=
 if (∃ k n:Nat,(1 <= k∧k <= 9)∧(1 <= n∧n <= k)∧x.1=((1,(k:Int),0,()),(0,0,0,()),false,())∧x.2.2.1=(n:Int))∧x.2.1=(false,0,())∧x.2.2.2.2.1=[] then some (decide (x.2.2.1=x.1.1.2.1),(false,0,())) else none
noncomputable def vI (_n:Nat) (x:Yh):Option (Bool × (Bool × Int × Unit)):=orF zNp zNq x
end
end Go.Dec
namespace Go.Dec
open Go.Proofs Go.Ce
abbrev yEa:Ty:=.pair (.int .i64) (.pair (.int .i64) (.pair (.int .i64) .unit))
abbrev nW:List Ty:=[(.pair yEa (.pair yEa (.pair .bool .unit))),(.pair .bool (.pair (.int .i64) .unit)),(.pair (.int .i64) (.pair .bool (.pair (.slice .bool) .unit)))]
abbrev wS:List Ty:=[.bool,(.pair .bool (.pair (.int .i64) .unit))]
noncomputable abbrev runK (bs:List Bool) (x:Yh):Option (Bool × (Bool × Int × Unit)):=Rt Tryz.E 84 nW wS 2000 bs x
theorem len1 {bs:List Bool} (h:bs.length=1):∃ a,bs=[a]:=by
 match bs,h with
 | [a],_=>exact ⟨a,rfl⟩
theorem zUo (l a:Bool) (N:Int):runK [a] (((0,0,0,()),(0,0,0,()),false,()),(false,0,()),(N,l,[],()))=some (true,(false,0,())):=by
 cases a <;> kernel_rfl
theorem zQq (l:Bool) (N:Int):rC nW (((0,0,0,()),(0,0,0,()),false,()),(false,0,()),(N,l,[],()))=1:=by kernel_rfl
theorem zQr (l:Bool) (N k:Int):rC nW (((1,k,0,()),(0,0,0,()),false,()),(false,0,()),(N,l,[],()))=1:=by kernel_rfl
theorem zUp (a l:Bool):runK [a] (((1,1,0,()),(0,0,0,()),false,()),(false,0,()),(1,l,[],()))=some (true,(false,0,())):=by cases a <;> kernel_rfl
theorem zUq (a l:Bool):runK [a] (((1,2,0,()),(0,0,0,()),false,()),(false,0,()),(1,l,[],()))=some (false,(false,0,())):=by cases a <;> kernel_rfl
theorem zUr (a l:Bool):runK [a] (((1,2,0,()),(0,0,0,()),false,()),(false,0,()),(2,l,[],()))=some (true,(false,0,())):=by cases a <;> kernel_rfl
theorem zUs (a l:Bool):runK [a] (((1,3,0,()),(0,0,0,()),false,()),(false,0,()),(1,l,[],()))=some (false,(false,0,())):=by cases a <;> kernel_rfl
theorem zUt (a l:Bool):runK [a] (((1,3,0,()),(0,0,0,()),false,()),(false,0,()),(2,l,[],()))=some (false,(false,0,())):=by cases a <;> kernel_rfl
theorem zUu (a l:Bool):runK [a] (((1,3,0,()),(0,0,0,()),false,()),(false,0,()),(3,l,[],()))=some (true,(false,0,())):=by cases a <;> kernel_rfl
theorem zUv (a l:Bool):runK [a] (((1,4,0,()),(0,0,0,()),false,()),(false,0,()),(1,l,[],()))=some (false,(false,0,())):=by cases a <;> kernel_rfl
theorem zUw (a l:Bool):runK [a] (((1,4,0,()),(0,0,0,()),false,()),(false,0,()),(2,l,[],()))=some (false,(false,0,())):=by cases a <;> kernel_rfl
theorem zUx (a l:Bool):runK [a] (((1,4,0,()),(0,0,0,()),false,()),(false,0,()),(3,l,[],()))=some (false,(false,0,())):=by cases a <;> kernel_rfl
theorem zUy (a l:Bool):runK [a] (((1,4,0,()),(0,0,0,()),false,()),(false,0,()),(4,l,[],()))=some (true,(false,0,())):=by cases a <;> kernel_rfl
theorem zUz (a l:Bool):runK [a] (((1,5,0,()),(0,0,0,()),false,()),(false,0,()),(1,l,[],()))=some (false,(false,0,())):=by cases a <;> kernel_rfl
theorem zVa (a l:Bool):runK [a] (((1,5,0,()),(0,0,0,()),false,()),(false,0,()),(2,l,[],()))=some (false,(false,0,())):=by cases a <;> kernel_rfl
theorem zVb (a l:Bool):runK [a] (((1,5,0,()),(0,0,0,()),false,()),(false,0,()),(3,l,[],()))=some (false,(false,0,())):=by cases a <;> kernel_rfl
theorem zVc (a l:Bool):runK [a] (((1,5,0,()),(0,0,0,()),false,()),(false,0,()),(4,l,[],()))=some (false,(false,0,())):=by cases a <;> kernel_rfl
theorem zVd (a l:Bool):runK [a] (((1,5,0,()),(0,0,0,()),false,()),(false,0,()),(5,l,[],()))=some (true,(false,0,())):=by cases a <;> kernel_rfl
theorem zVe (a l:Bool):runK [a] (((1,6,0,()),(0,0,0,()),false,()),(false,0,()),(1,l,[],()))=some (false,(false,0,())):=by cases a <;> kernel_rfl
theorem zVf (a l:Bool):runK [a] (((1,6,0,()),(0,0,0,()),false,()),(false,0,()),(2,l,[],()))=some (false,(false,0,())):=by cases a <;> kernel_rfl
theorem zVg (a l:Bool):runK [a] (((1,6,0,()),(0,0,0,()),false,()),(false,0,()),(3,l,[],()))=some (false,(false,0,())):=by cases a <;> kernel_rfl
theorem zVh (a l:Bool):runK [a] (((1,6,0,()),(0,0,0,()),false,()),(false,0,()),(4,l,[],()))=some (false,(false,0,())):=by cases a <;> kernel_rfl
theorem zVi (a l:Bool):runK [a] (((1,6,0,()),(0,0,0,()),false,()),(false,0,()),(5,l,[],()))=some (false,(false,0,())):=by cases a <;> kernel_rfl
theorem zVj (a l:Bool):runK [a] (((1,6,0,()),(0,0,0,()),false,()),(false,0,()),(6,l,[],()))=some (true,(false,0,())):=by cases a <;> kernel_rfl
theorem zVk (a l:Bool):runK [a] (((1,7,0,()),(0,0,0,()),false,()),(false,0,()),(1,l,[],()))=some (false,(false,0,())):=by cases a <;> kernel_rfl
theorem zVl (a l:Bool):runK [a] (((1,7,0,()),(0,0,0,()),false,()),(false,0,()),(2,l,[],()))=some (false,(false,0,())):=by cases a <;> kernel_rfl
theorem zVm (a l:Bool):runK [a] (((1,7,0,()),(0,0,0,()),false,()),(false,0,()),(3,l,[],()))=some (false,(false,0,())):=by cases a <;> kernel_rfl
theorem zVn (a l:Bool):runK [a] (((1,7,0,()),(0,0,0,()),false,()),(false,0,()),(4,l,[],()))=some (false,(false,0,())):=by cases a <;> kernel_rfl
theorem zVo (a l:Bool):runK [a] (((1,7,0,()),(0,0,0,()),false,()),(false,0,()),(5,l,[],()))=some (false,(false,0,())):=by cases a <;> kernel_rfl
theorem zVp (a l:Bool):runK [a] (((1,7,0,()),(0,0,0,()),false,()),(false,0,()),(6,l,[],()))=some (false,(false,0,())):=by cases a <;> kernel_rfl
theorem zVq (a l:Bool):runK [a] (((1,7,0,()),(0,0,0,()),false,()),(false,0,()),(7,l,[],()))=some (true,(false,0,())):=by cases a <;> kernel_rfl
theorem zVr (a l:Bool):runK [a] (((1,8,0,()),(0,0,0,()),false,()),(false,0,()),(1,l,[],()))=some (false,(false,0,())):=by cases a <;> kernel_rfl
theorem zVs (a l:Bool):runK [a] (((1,8,0,()),(0,0,0,()),false,()),(false,0,()),(2,l,[],()))=some (false,(false,0,())):=by cases a <;> kernel_rfl
theorem zVt (a l:Bool):runK [a] (((1,8,0,()),(0,0,0,()),false,()),(false,0,()),(3,l,[],()))=some (false,(false,0,())):=by cases a <;> kernel_rfl
theorem zVu (a l:Bool):runK [a] (((1,8,0,()),(0,0,0,()),false,()),(false,0,()),(4,l,[],()))=some (false,(false,0,())):=by cases a <;> kernel_rfl
theorem zVv (a l:Bool):runK [a] (((1,8,0,()),(0,0,0,()),false,()),(false,0,()),(5,l,[],()))=some (false,(false,0,())):=by cases a <;> kernel_rfl
theorem zVw (a l:Bool):runK [a] (((1,8,0,()),(0,0,0,()),false,()),(false,0,()),(6,l,[],()))=some (false,(false,0,())):=by cases a <;> kernel_rfl
theorem zVx (a l:Bool):runK [a] (((1,8,0,()),(0,0,0,()),false,()),(false,0,()),(7,l,[],()))=some (false,(false,0,())):=by cases a <;> kernel_rfl
theorem zVy (a l:Bool):runK [a] (((1,8,0,()),(0,0,0,()),false,()),(false,0,()),(8,l,[],()))=some (true,(false,0,())):=by cases a <;> kernel_rfl
theorem zVz (a l:Bool):runK [a] (((1,9,0,()),(0,0,0,()),false,()),(false,0,()),(1,l,[],()))=some (false,(false,0,())):=by cases a <;> kernel_rfl
theorem zWa (a l:Bool):runK [a] (((1,9,0,()),(0,0,0,()),false,()),(false,0,()),(2,l,[],()))=some (false,(false,0,())):=by cases a <;> kernel_rfl
theorem zWb (a l:Bool):runK [a] (((1,9,0,()),(0,0,0,()),false,()),(false,0,()),(3,l,[],()))=some (false,(false,0,())):=by cases a <;> kernel_rfl
theorem zWc (a l:Bool):runK [a] (((1,9,0,()),(0,0,0,()),false,()),(false,0,()),(4,l,[],()))=some (false,(false,0,())):=by cases a <;> kernel_rfl
theorem zWd (a l:Bool):runK [a] (((1,9,0,()),(0,0,0,()),false,()),(false,0,()),(5,l,[],()))=some (false,(false,0,())):=by cases a <;> kernel_rfl
theorem zWe (a l:Bool):runK [a] (((1,9,0,()),(0,0,0,()),false,()),(false,0,()),(6,l,[],()))=some (false,(false,0,())):=by cases a <;> kernel_rfl
theorem zWf (a l:Bool):runK [a] (((1,9,0,()),(0,0,0,()),false,()),(false,0,()),(7,l,[],()))=some (false,(false,0,())):=by cases a <;> kernel_rfl
theorem zWg (a l:Bool):runK [a] (((1,9,0,()),(0,0,0,()),false,()),(false,0,()),(8,l,[],()))=some (false,(false,0,())):=by cases a <;> kernel_rfl
theorem zWh (a l:Bool):runK [a] (((1,9,0,()),(0,0,0,()),false,()),(false,0,()),(9,l,[],()))=some (true,(false,0,())):=by cases a <;> kernel_rfl
theorem zWi {k n:Nat} (hk:1 <= k∧k <= 9) (hn:1 <= n∧n <= k) (a l:Bool):runK [a] (((1,(k:Int),0,()),(0,0,0,()),false,()),(false,0,()),((n:Int),l,[],()))=some (k == n,(false,0,())):=by
 have h:k=1∨k=2∨k=3∨k=4∨k=5∨k=6∨k=7∨k=8∨k=9:=by omega
 rcases h with rfl | rfl | rfl | rfl | rfl | rfl | rfl | rfl | rfl
 ·obtain rfl:n=1:=by omega
  exact zUp a l
 ·have h:n=1∨n=2:=by omega
  rcases h with rfl | rfl
  ·exact zUq a l
  ·exact zUr a l
 ·have h:n=1∨n=2∨n=3:=by omega
  rcases h with rfl | rfl | rfl
  ·exact zUs a l
  ·exact zUt a l
  ·exact zUu a l
 ·have h:n=1∨n=2∨n=3∨n=4:=by omega
  rcases h with rfl | rfl | rfl | rfl
  ·exact zUv a l
  ·exact zUw a l
  ·exact zUx a l
  ·exact zUy a l
 ·have h:n=1∨n=2∨n=3∨n=4∨n=5:=by omega
  rcases h with rfl | rfl | rfl | rfl | rfl
  ·exact zUz a l
  ·exact zVa a l
  ·exact zVb a l
  ·exact zVc a l
  ·exact zVd a l
 ·have h:n=1∨n=2∨n=3∨n=4∨n=5∨n=6:=by omega
  rcases h with rfl | rfl | rfl | rfl | rfl | rfl
  ·exact zVe a l
  ·exact zVf a l
  ·exact zVg a l
  ·exact zVh a l
  ·exact zVi a l
  ·exact zVj a l
 ·have h:n=1∨n=2∨n=3∨n=4∨n=5∨n=6∨n=7:=by omega
  rcases h with rfl | rfl | rfl | rfl | rfl | rfl | rfl
  ·exact zVk a l
  ·exact zVl a l
  ·exact zVm a l
  ·exact zVn a l
  ·exact zVo a l
  ·exact zVp a l
  ·exact zVq a l
 ·have h:n=1∨n=2∨n=3∨n=4∨n=5∨n=6∨n=7∨n=8:=by omega
  rcases h with rfl | rfl | rfl | rfl | rfl | rfl | rfl | rfl
  ·exact zVr a l
  ·exact zVs a l
  ·exact zVt a l
  ·exact zVu a l
  ·exact zVv a l
  ·exact zVw a l
  ·exact zVx a l
  ·exact zVy a l
 ·have h:n=1∨n=2∨n=3∨n=4∨n=5∨n=6∨n=7∨n=8∨n=9:=by omega
  rcases h with rfl | rfl | rfl | rfl | rfl | rfl | rfl | rfl | rfl
  ·exact zVz a l
  ·exact zWa a l
  ·exact zWb a l
  ·exact zWc a l
  ·exact zWd a l
  ·exact zWe a l
  ·exact zWf a l
  ·exact zWg a l
  ·exact zWh a l
theorem zQs:Pure Tryz.prog 84 nW wS zNp:=by
 refine nU Tryz.E_ok (by kernel_rfl) fun (x:Yh) y hxy bs hbs=>?_
 obtain ⟨r,s,N,l,h,_⟩:=x
 unfold zNp at hxy
 split at hxy
 ·rename_i hh
  obtain ⟨h1,h2,h3⟩:=hh
  simp only at h1 h2 h3
  simp only [Option.some.injEq] at hxy
  subst h1 h2 h3 hxy
  rw [zQq] at hbs
  obtain ⟨a,rfl⟩:=len1 hbs
  exact ⟨2000,zUo l a N⟩
 ·cases hxy
theorem zQt:Pure Tryz.prog 84 nW wS zNq:=by
 refine nU Tryz.E_ok (by kernel_rfl) fun (x:Yh) y hxy bs hbs=>?_
 obtain ⟨r,s,N,l,h,_⟩:=x
 unfold zNq at hxy
 split at hxy
 ·rename_i hh
  obtain ⟨⟨k,n,hk,hn,h0,h1⟩,h2,h3⟩:=hh
  simp only at h0 h1 h2 h3
  simp only [Option.some.injEq] at hxy
  subst h0 h1 h2 h3 hxy
  rw [zQr] at hbs
  obtain ⟨a,rfl⟩:=len1 hbs
  refine ⟨2000,(zWi hk hn a l).trans ?_⟩
  have:(k == n)=decide ((n:Int)=(k:Int)):=by
   by_cases h:k=n
   ·subst h; simp
   ·have:¬ (n:Int)=(k:Int):=by omega
    simp [h,this]
  rw [this]
 ·cases hxy
theorem zAx (n:Nat):Pure Tryz.prog 84 nW wS (vI n):=pure_or zQs zQt
end Go.Dec
