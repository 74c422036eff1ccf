/- Part of a proof over this seat: a library of my own, and what it says of this seat. No statement is proved here. -/
import Derived.Test.YtmpoakdpdflfgaaGreatDoorSwBJ
import Derived.Test.YtmpoakdpdflfgaaGreatDoorSwBN
namespace Go.Dec
abbrev AskX:Type:=(AddD × AddD × Bool × Unit) × (Bool × Int × Unit) × (Int × Bool × List Bool × Unit)
section
open Classical
noncomputable def askA (x:AskX):Option (Bool × (Bool × Int × Unit)) :=
 if x.1=((0,0,0,()),(0,0,0,()),false,())∧x.2.1=(false,0,())∧x.2.2.2.2.1=[] then some (true,(false,0,())) else none
noncomputable def askK (x:AskX):Option (Bool × (Bool × Int × Unit)) :=
 if (∃ k n:Nat,(1 <= k∧k <= 9)∧(1 <= n∧n <= k)∧x.1=((1,(k:Int),0,()),(0,0,0,()),false,())∧x.2.2.1=(n:Int))∧x.2.1=(false,0,())∧x.2.2.2.2.1=[] then some (decide (x.2.2.1=x.1.1.2.1),(false,0,())) else none
noncomputable def table_Put (_n:Nat) (x:List FilD × List UInt8 × List UInt8):Option (List FilD):=if x.1.map (·.1)=[[102]]∧x.2.1=[102] then some [([102],x.2.2,())] else none
noncomputable def addr_Ask (_n:Nat) (x:AskX):Option (Bool × (Bool × Int × Unit)):=orF askA askK x
end
end Go.Dec
namespace Go.Dec
open Go.Proofs Go.Ce
abbrev AkAd:Ty:=.pair (.int .i64) (.pair (.int .i64) (.pair (.int .i64) .unit))
abbrev addr_AskA:List Ty:=[(.pair AkAd (.pair AkAd (.pair .bool .unit))),(.pair .bool (.pair (.int .i64) .unit)),(.pair (.int .i64) (.pair .bool (.pair (.slice .bool) .unit)))]
abbrev addr_AskR:List Ty:=[.bool,(.pair .bool (.pair (.int .i64) .unit))]
noncomputable abbrev runK (bs:List Bool) (x:AskX):Option (Bool × (Bool × Int × Unit)):=runD Tryz.E 84 addr_AskA addr_AskR 2000 bs x
theorem len1 {bs:List Bool} (h:bs.length=1):∃ a,bs=[a]:=by
 match bs,h with
 | [a],_=>exact ⟨a,rfl⟩
theorem askA_run (l a:Bool) (N:Int):runK [a] (((0,0,0,()),(0,0,0,()),false,()),(false,0,()),(N,l,[],()))=some (true,(false,0,())):=by
 cases a <;> kernel_rfl
theorem askA_emps (l:Bool) (N:Int):empsV addr_AskA (((0,0,0,()),(0,0,0,()),false,()),(false,0,()),(N,l,[],()))=1:=by kernel_rfl
theorem askK_emps (l:Bool) (N k:Int):empsV addr_AskA (((1,k,0,()),(0,0,0,()),false,()),(false,0,()),(N,l,[],()))=1:=by kernel_rfl
theorem askK_1_1 (a l:Bool):runK [a] (((1,1,0,()),(0,0,0,()),false,()),(false,0,()),(1,l,[],()))=some (true,(false,0,())):=by cases a <;> kernel_rfl
theorem askK_2_1 (a l:Bool):runK [a] (((1,2,0,()),(0,0,0,()),false,()),(false,0,()),(1,l,[],()))=some (false,(false,0,())):=by cases a <;> kernel_rfl
theorem askK_2_2 (a l:Bool):runK [a] (((1,2,0,()),(0,0,0,()),false,()),(false,0,()),(2,l,[],()))=some (true,(false,0,())):=by cases a <;> kernel_rfl
theorem askK_3_1 (a l:Bool):runK [a] (((1,3,0,()),(0,0,0,()),false,()),(false,0,()),(1,l,[],()))=some (false,(false,0,())):=by cases a <;> kernel_rfl
theorem askK_3_2 (a l:Bool):runK [a] (((1,3,0,()),(0,0,0,()),false,()),(false,0,()),(2,l,[],()))=some (false,(false,0,())):=by cases a <;> kernel_rfl
theorem askK_3_3 (a l:Bool):runK [a] (((1,3,0,()),(0,0,0,()),false,()),(false,0,()),(3,l,[],()))=some (true,(false,0,())):=by cases a <;> kernel_rfl
theorem askK_4_1 (a l:Bool):runK [a] (((1,4,0,()),(0,0,0,()),false,()),(false,0,()),(1,l,[],()))=some (false,(false,0,())):=by cases a <;> kernel_rfl
theorem askK_4_2 (a l:Bool):runK [a] (((1,4,0,()),(0,0,0,()),false,()),(false,0,()),(2,l,[],()))=some (false,(false,0,())):=by cases a <;> kernel_rfl
theorem askK_4_3 (a l:Bool):runK [a] (((1,4,0,()),(0,0,0,()),false,()),(false,0,()),(3,l,[],()))=some (false,(false,0,())):=by cases a <;> kernel_rfl
theorem askK_4_4 (a l:Bool):runK [a] (((1,4,0,()),(0,0,0,()),false,()),(false,0,()),(4,l,[],()))=some (true,(false,0,())):=by cases a <;> kernel_rfl
theorem askK_5_1 (a l:Bool):runK [a] (((1,5,0,()),(0,0,0,()),false,()),(false,0,()),(1,l,[],()))=some (false,(false,0,())):=by cases a <;> kernel_rfl
theorem askK_5_2 (a l:Bool):runK [a] (((1,5,0,()),(0,0,0,()),false,()),(false,0,()),(2,l,[],()))=some (false,(false,0,())):=by cases a <;> kernel_rfl
theorem askK_5_3 (a l:Bool):runK [a] (((1,5,0,()),(0,0,0,()),false,()),(false,0,()),(3,l,[],()))=some (false,(false,0,())):=by cases a <;> kernel_rfl
theorem askK_5_4 (a l:Bool):runK [a] (((1,5,0,()),(0,0,0,()),false,()),(false,0,()),(4,l,[],()))=some (false,(false,0,())):=by cases a <;> kernel_rfl
theorem askK_5_5 (a l:Bool):runK [a] (((1,5,0,()),(0,0,0,()),false,()),(false,0,()),(5,l,[],()))=some (true,(false,0,())):=by cases a <;> kernel_rfl
theorem askK_6_1 (a l:Bool):runK [a] (((1,6,0,()),(0,0,0,()),false,()),(false,0,()),(1,l,[],()))=some (false,(false,0,())):=by cases a <;> kernel_rfl
theorem askK_6_2 (a l:Bool):runK [a] (((1,6,0,()),(0,0,0,()),false,()),(false,0,()),(2,l,[],()))=some (false,(false,0,())):=by cases a <;> kernel_rfl
theorem askK_6_3 (a l:Bool):runK [a] (((1,6,0,()),(0,0,0,()),false,()),(false,0,()),(3,l,[],()))=some (false,(false,0,())):=by cases a <;> kernel_rfl
theorem askK_6_4 (a l:Bool):runK [a] (((1,6,0,()),(0,0,0,()),false,()),(false,0,()),(4,l,[],()))=some (false,(false,0,())):=by cases a <;> kernel_rfl
theorem askK_6_5 (a l:Bool):runK [a] (((1,6,0,()),(0,0,0,()),false,()),(false,0,()),(5,l,[],()))=some (false,(false,0,())):=by cases a <;> kernel_rfl
theorem askK_6_6 (a l:Bool):runK [a] (((1,6,0,()),(0,0,0,()),false,()),(false,0,()),(6,l,[],()))=some (true,(false,0,())):=by cases a <;> kernel_rfl
theorem askK_7_1 (a l:Bool):runK [a] (((1,7,0,()),(0,0,0,()),false,()),(false,0,()),(1,l,[],()))=some (false,(false,0,())):=by cases a <;> kernel_rfl
theorem askK_7_2 (a l:Bool):runK [a] (((1,7,0,()),(0,0,0,()),false,()),(false,0,()),(2,l,[],()))=some (false,(false,0,())):=by cases a <;> kernel_rfl
theorem askK_7_3 (a l:Bool):runK [a] (((1,7,0,()),(0,0,0,()),false,()),(false,0,()),(3,l,[],()))=some (false,(false,0,())):=by cases a <;> kernel_rfl
theorem askK_7_4 (a l:Bool):runK [a] (((1,7,0,()),(0,0,0,()),false,()),(false,0,()),(4,l,[],()))=some (false,(false,0,())):=by cases a <;> kernel_rfl
theorem askK_7_5 (a l:Bool):runK [a] (((1,7,0,()),(0,0,0,()),false,()),(false,0,()),(5,l,[],()))=some (false,(false,0,())):=by cases a <;> kernel_rfl
theorem askK_7_6 (a l:Bool):runK [a] (((1,7,0,()),(0,0,0,()),false,()),(false,0,()),(6,l,[],()))=some (false,(false,0,())):=by cases a <;> kernel_rfl
theorem askK_7_7 (a l:Bool):runK [a] (((1,7,0,()),(0,0,0,()),false,()),(false,0,()),(7,l,[],()))=some (true,(false,0,())):=by cases a <;> kernel_rfl
theorem askK_8_1 (a l:Bool):runK [a] (((1,8,0,()),(0,0,0,()),false,()),(false,0,()),(1,l,[],()))=some (false,(false,0,())):=by cases a <;> kernel_rfl
theorem askK_8_2 (a l:Bool):runK [a] (((1,8,0,()),(0,0,0,()),false,()),(false,0,()),(2,l,[],()))=some (false,(false,0,())):=by cases a <;> kernel_rfl
theorem askK_8_3 (a l:Bool):runK [a] (((1,8,0,()),(0,0,0,()),false,()),(false,0,()),(3,l,[],()))=some (false,(false,0,())):=by cases a <;> kernel_rfl
theorem askK_8_4 (a l:Bool):runK [a] (((1,8,0,()),(0,0,0,()),false,()),(false,0,()),(4,l,[],()))=some (false,(false,0,())):=by cases a <;> kernel_rfl
theorem askK_8_5 (a l:Bool):runK [a] (((1,8,0,()),(0,0,0,()),false,()),(false,0,()),(5,l,[],()))=some (false,(false,0,())):=by cases a <;> kernel_rfl
theorem askK_8_6 (a l:Bool):runK [a] (((1,8,0,()),(0,0,0,()),false,()),(false,0,()),(6,l,[],()))=some (false,(false,0,())):=by cases a <;> kernel_rfl
theorem askK_8_7 (a l:Bool):runK [a] (((1,8,0,()),(0,0,0,()),false,()),(false,0,()),(7,l,[],()))=some (false,(false,0,())):=by cases a <;> kernel_rfl
theorem askK_8_8 (a l:Bool):runK [a] (((1,8,0,()),(0,0,0,()),false,()),(false,0,()),(8,l,[],()))=some (true,(false,0,())):=by cases a <;> kernel_rfl
theorem askK_9_1 (a l:Bool):runK [a] (((1,9,0,()),(0,0,0,()),false,()),(false,0,()),(1,l,[],()))=some (false,(false,0,())):=by cases a <;> kernel_rfl
theorem askK_9_2 (a l:Bool):runK [a] (((1,9,0,()),(0,0,0,()),false,()),(false,0,()),(2,l,[],()))=some (false,(false,0,())):=by cases a <;> kernel_rfl
theorem askK_9_3 (a l:Bool):runK [a] (((1,9,0,()),(0,0,0,()),false,()),(false,0,()),(3,l,[],()))=some (false,(false,0,())):=by cases a <;> kernel_rfl
theorem askK_9_4 (a l:Bool):runK [a] (((1,9,0,()),(0,0,0,()),false,()),(false,0,()),(4,l,[],()))=some (false,(false,0,())):=by cases a <;> kernel_rfl
theorem askK_9_5 (a l:Bool):runK [a] (((1,9,0,()),(0,0,0,()),false,()),(false,0,()),(5,l,[],()))=some (false,(false,0,())):=by cases a <;> kernel_rfl
theorem askK_9_6 (a l:Bool):runK [a] (((1,9,0,()),(0,0,0,()),false,()),(false,0,()),(6,l,[],()))=some (false,(false,0,())):=by cases a <;> kernel_rfl
theorem askK_9_7 (a l:Bool):runK [a] (((1,9,0,()),(0,0,0,()),false,()),(false,0,()),(7,l,[],()))=some (false,(false,0,())):=by cases a <;> kernel_rfl
theorem askK_9_8 (a l:Bool):runK [a] (((1,9,0,()),(0,0,0,()),false,()),(false,0,()),(8,l,[],()))=some (false,(false,0,())):=by cases a <;> kernel_rfl
theorem askK_9_9 (a l:Bool):runK [a] (((1,9,0,()),(0,0,0,()),false,()),(false,0,()),(9,l,[],()))=some (true,(false,0,())):=by cases a <;> kernel_rfl
theorem askK_run {k n:Nat} (hk:1 <= k∧k <= 9) (hn:1 <= n∧n <= k) (a l:Bool):runK [a] (((1,(k:Int),0,()),(0,0,0,()),false,()),(false,0,()),((n:Int),l,[],()))=some (k == n,(false,0,())):=by
 have h:k=1∨k=2∨k=3∨k=4∨k=5∨k=6∨k=7∨k=8∨k=9:=by omega
 rcases h with rfl | rfl | rfl | rfl | rfl | rfl | rfl | rfl | rfl
 ·obtain rfl:n=1:=by omega
  exact askK_1_1 a l
 ·have h:n=1∨n=2:=by omega
  rcases h with rfl | rfl
  ·exact askK_2_1 a l
  ·exact askK_2_2 a l
 ·have h:n=1∨n=2∨n=3:=by omega
  rcases h with rfl | rfl | rfl
  ·exact askK_3_1 a l
  ·exact askK_3_2 a l
  ·exact askK_3_3 a l
 ·have h:n=1∨n=2∨n=3∨n=4:=by omega
  rcases h with rfl | rfl | rfl | rfl
  ·exact askK_4_1 a l
  ·exact askK_4_2 a l
  ·exact askK_4_3 a l
  ·exact askK_4_4 a l
 ·have h:n=1∨n=2∨n=3∨n=4∨n=5:=by omega
  rcases h with rfl | rfl | rfl | rfl | rfl
  ·exact askK_5_1 a l
  ·exact askK_5_2 a l
  ·exact askK_5_3 a l
  ·exact askK_5_4 a l
  ·exact askK_5_5 a l
 ·have h:n=1∨n=2∨n=3∨n=4∨n=5∨n=6:=by omega
  rcases h with rfl | rfl | rfl | rfl | rfl | rfl
  ·exact askK_6_1 a l
  ·exact askK_6_2 a l
  ·exact askK_6_3 a l
  ·exact askK_6_4 a l
  ·exact askK_6_5 a l
  ·exact askK_6_6 a l
 ·have h:n=1∨n=2∨n=3∨n=4∨n=5∨n=6∨n=7:=by omega
  rcases h with rfl | rfl | rfl | rfl | rfl | rfl | rfl
  ·exact askK_7_1 a l
  ·exact askK_7_2 a l
  ·exact askK_7_3 a l
  ·exact askK_7_4 a l
  ·exact askK_7_5 a l
  ·exact askK_7_6 a l
  ·exact askK_7_7 a l
 ·have h:n=1∨n=2∨n=3∨n=4∨n=5∨n=6∨n=7∨n=8:=by omega
  rcases h with rfl | rfl | rfl | rfl | rfl | rfl | rfl | rfl
  ·exact askK_8_1 a l
  ·exact askK_8_2 a l
  ·exact askK_8_3 a l
  ·exact askK_8_4 a l
  ·exact askK_8_5 a l
  ·exact askK_8_6 a l
  ·exact askK_8_7 a l
  ·exact askK_8_8 a l
 ·have h:n=1∨n=2∨n=3∨n=4∨n=5∨n=6∨n=7∨n=8∨n=9:=by omega
  rcases h with rfl | rfl | rfl | rfl | rfl | rfl | rfl | rfl | rfl
  ·exact askK_9_1 a l
  ·exact askK_9_2 a l
  ·exact askK_9_3 a l
  ·exact askK_9_4 a l
  ·exact askK_9_5 a l
  ·exact askK_9_6 a l
  ·exact askK_9_7 a l
  ·exact askK_9_8 a l
  ·exact askK_9_9 a l
theorem askA_pure:Pure Tryz.prog 84 addr_AskA addr_AskR askA:=by
 refine pure_of_data Tryz.E_ok (by kernel_rfl) fun (x:AskX) y hxy bs hbs=>?_
 obtain ⟨r,s,N,l,h,_⟩:=x
 unfold askA at hxy
 split at hxy
 ·rename_i hh
  obtain ⟨h1,h2,h3⟩:=hh
  simp only at h1 h2 h3
  simp only [Option.some.injEq] at hxy
  subst h1 h2 h3 hxy
  rw [askA_emps] at hbs
  obtain ⟨a,rfl⟩:=len1 hbs
  exact ⟨2000,askA_run l a N⟩
 ·cases hxy
theorem askK_pure:Pure Tryz.prog 84 addr_AskA addr_AskR askK:=by
 refine pure_of_data Tryz.E_ok (by kernel_rfl) fun (x:AskX) y hxy bs hbs=>?_
 obtain ⟨r,s,N,l,h,_⟩:=x
 unfold askK at hxy
 split at hxy
 ·rename_i hh
  obtain ⟨⟨k,n,hk,hn,h0,h1⟩,h2,h3⟩:=hh
  simp only at h0 h1 h2 h3
  simp only [Option.some.injEq] at hxy
  subst h0 h1 h2 h3 hxy
  rw [askK_emps] at hbs
  obtain ⟨a,rfl⟩:=len1 hbs
  refine ⟨2000,(askK_run hk hn a l).trans ?_⟩
  have:(k == n)=decide ((n:Int)=(k:Int)):=by
   by_cases h:k=n
   ·subst h; simp
   ·have:¬ (n:Int)=(k:Int):=by omega
    simp [h,this]
  rw [this]
 ·cases hxy
abbrev table_PutA:List Ty:=[.slice FilT,.str,.str]
abbrev table_PutR:List Ty:=[.slice FilT]
theorem put_run (u v:List UInt8):runD Tryz.E 50 table_PutA table_PutR 2000 [] ([([102],u,())],[102],v)=some [([102],rt v,())]:=by kernel_rfl
theorem put_emps (u v:List UInt8):empsV table_PutA ([([102],u,())],[102],v)=0:=by kernel_rfl
theorem table_Put_pure (n:Nat):Pure Tryz.prog 50 table_PutA table_PutR (table_Put n):=by
 refine pure_of_data Tryz.E_ok (by kernel_rfl) fun (x:List FilD × List UInt8 × List UInt8) y hxy bs hbs=>?_
 obtain ⟨t,f,v⟩:=x
 unfold table_Put at hxy
 split at hxy
 ·rename_i hh
  obtain ⟨h1,h2⟩:=hh
  simp only at h1 h2
  obtain ⟨u,rfl⟩:=map1 h1
  simp only [Option.some.injEq] at hxy
  subst h2 hxy
  rw [put_emps] at hbs
  obtain rfl:=List.length_eq_zero_iff.1 hbs
  exact ⟨2000,by rw [show runD Tryz.E 50 table_PutA table_PutR 2000 [] _=_ from put_run u v,rt_eq]⟩
 ·cases hxy
theorem addr_Ask_pure (n:Nat):Pure Tryz.prog 84 addr_AskA addr_AskR (addr_Ask n):=pure_or askA_pure askK_pure
end Go.Dec
