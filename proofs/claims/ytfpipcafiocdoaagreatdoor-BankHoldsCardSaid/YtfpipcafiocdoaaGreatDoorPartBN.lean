/- Part of a proof over this seat: a library of my own, and what it says of this seat. No statement is proved here. -/
import Derived.Test.YtfpipcafiocdoaaGreatDoorPartBJ
import Derived.Test.YtfpipcafiocdoaaGreatDoorPartBI
import Derived.Test.YtfpipcafiocdoaaGreatDoorPartAX
import Derived.KernelRfl
namespace Go.Dec
abbrev yEf:Type:=Int × List Int × Int × Int × Int × Int × Int × Unit
abbrev zIk:Type:=Int × Int × Int × Unit
abbrev tK:Type:=(zIk × zIk × Bool × Unit) × Int × List UInt8 × List UInt8 × Int × Int × Int × List (List UInt8 × Int × Unit) × Bool × Bool × Unit
abbrev yEg:Type:=Bool × List (List yEf × Bool × Unit) × List tK × Unit
def orF {α β:Type} (F G:α->Option β) (x:α):Option β:=match F x with | some y=>some y | none=>G x
abbrev Jt:Type:=(zIk × zIk × Bool × Unit) × (Bool × Int × Unit) × (Int × Bool × List Bool × Unit)
section
open Classical
noncomputable def Ua (x:Jt):Option (Bool × (Bool × Int × Unit)) :=
 if x.1=((0,0,0,()),(0,0,0,()),false,())∧x.2.1=(false,0,())∧x.2.2.2.2.1=[] then some (true,(false,0,())) else none
noncomputable def zBt (x:Jt):Option (Bool × (Bool × Int × Unit)) :=
 if x.1=((1,1,0,()),(0,0,0,()),false,())∧x.2.1=(false,0,())∧x.2.2.1=1∧x.2.2.2.2.1=[] then some (true,(false,0,())) else none
noncomputable def zIl (x:Jt):Option (Bool × (Bool × Int × Unit)) :=
 if x.1=((1,1,0,()),(0,0,0,()),false,())∧x.2.1=(false,0,())∧x.2.2.1=2∧x.2.2.2.2.1=[] then some (false,(false,0,())) else none
noncomputable def dO (_n:Nat) (x:Jt):Option (Bool × (Bool × Int × Unit)):=orF Ua (orF zBt zIl) x
end
end Go.Dec
namespace Go.Dec
open Go.Proofs Go.Ce
theorem pure_or {P:Program} {f:FuncId} {ps rs:List Ty} {F G:bQ ps->Option (bQ rs)} (h:Pure P f ps rs F) (h':Pure P f ps rs G):Pure P f ps rs (orF F G) :=
 ⟨h.1,fun x y e=>by
  unfold orF at e
  cases hF:F x with
  | some z=>rw [hF] at e; exact h.2 x y (hF.trans e)
  | none=>rw [hF] at e; exact h'.2 x y e⟩
abbrev zZa:Ty:=.pair (.int .i64) (.pair (.int .i64) (.pair (.int .i64) .unit))
abbrev lX:List Ty:=[(.pair zZa (.pair zZa (.pair .bool .unit))),(.pair .bool (.pair (.int .i64) .unit)),(.pair (.int .i64) (.pair .bool (.pair (.slice .bool) .unit)))]
abbrev sH:List Ty:=[.bool,(.pair .bool (.pair (.int .i64) .unit))]
noncomputable abbrev runK (bs:List Bool) (x:Jt):Option (Bool × (Bool × Int × Unit)):=zIi Tryz.E 61 lX sH 2000 bs x
theorem len1 {bs:List Bool} (h:bs.length=1):∃ a,bs=[a]:=by
 match bs,h with
 | [a],_=>exact ⟨a,rfl⟩
theorem zOq (l a:Bool) (N:Int):runK [a] (((0,0,0,()),(0,0,0,()),false,()),(false,0,()),(N,l,[],()))=some (true,(false,0,())):=by
 cases a <;> kernel_rfl
theorem zKr (l:Bool) (N:Int):Gf lX (((0,0,0,()),(0,0,0,()),false,()),(false,0,()),(N,l,[],()))=1:=by kernel_rfl
theorem zOr (l a:Bool):runK [a] (((1,1,0,()),(0,0,0,()),false,()),(false,0,()),(1,l,[],()))=some (true,(false,0,())):=by
 cases a <;> kernel_rfl
theorem zOs (l a:Bool):runK [a] (((1,1,0,()),(0,0,0,()),false,()),(false,0,()),(2,l,[],()))=some (false,(false,0,())):=by
 cases a <;> kernel_rfl
theorem Vt (l:Bool) (N:Int):Gf lX (((1,1,0,()),(0,0,0,()),false,()),(false,0,()),(N,l,[],()))=1:=by kernel_rfl
theorem zKs:Pure Tryz.prog 61 lX sH Ua:=by
 refine tJ Tryz.E_ok (by kernel_rfl) fun (x:Jt) y hxy bs hbs=>?_
 obtain ⟨r,s,N,l,h,_⟩:=x
 unfold Ua at hxy
 split at hxy
 ·rename_i hh
  obtain ⟨h1,h2,h3⟩:=hh
  simp only at h1 h2 h3
  simp only [Option.some.injEq] at hxy
  subst h1 h2 h3 hxy
  rw [zKr] at hbs
  obtain ⟨a,rfl⟩:=len1 hbs
  exact ⟨2000,zOq l a N⟩
 ·cases hxy
theorem zKt:Pure Tryz.prog 61 lX sH zBt:=by
 refine tJ Tryz.E_ok (by kernel_rfl) fun (x:Jt) y hxy bs hbs=>?_
 obtain ⟨r,s,N,l,h,_⟩:=x
 unfold zBt at hxy
 split at hxy
 ·rename_i hh
  obtain ⟨h1,h2,h4,h3⟩:=hh
  simp only at h1 h2 h3 h4
  simp only [Option.some.injEq] at hxy
  subst h1 h2 h3 h4 hxy
  rw [Vt] at hbs
  obtain ⟨a,rfl⟩:=len1 hbs
  exact ⟨2000,zOr l a⟩
 ·cases hxy
theorem zKu:Pure Tryz.prog 61 lX sH zIl:=by
 refine tJ Tryz.E_ok (by kernel_rfl) fun (x:Jt) y hxy bs hbs=>?_
 obtain ⟨r,s,N,l,h,_⟩:=x
 unfold zIl at hxy
 split at hxy
 ·rename_i hh
  obtain ⟨h1,h2,h4,h3⟩:=hh
  simp only at h1 h2 h3 h4
  simp only [Option.some.injEq] at hxy
  subst h1 h2 h3 h4 hxy
  rw [Vt] at hbs
  obtain ⟨a,rfl⟩:=len1 hbs
  exact ⟨2000,zOs l a⟩
 ·cases hxy
theorem Wn (n:Nat):Pure Tryz.prog 61 lX sH (dO n):=pure_or zKs (pure_or zKt zKu)
end Go.Dec
