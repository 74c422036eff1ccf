/- Part of a proof over this seat: a library of my own, and what it says of this seat. No statement is proved here. -/
import Derived.Test.YtfpipcafiocdoaaGreatDoorPartBJ
import Derived.Test.YtfpipcafiocdoaaGreatDoorPartBI
import Derived.Test.YtfpipcafiocdoaaGreatDoorPartAX
import Derived.KernelRfl
namespace Go.Dec
abbrev fE:Type:=Int × List Int × Int × Int × Int × Int × Int × Unit
abbrev zIx:Type:=Int × Int × Int × Unit
abbrev dM:Type:=(zIx × zIx × Bool × Unit) × Int × List UInt8 × List UInt8 × Int × Int × Int × List (List UInt8 × Int × Unit) × Bool × Bool × Unit
abbrev eG:Type:=List UInt8 × List UInt8 × Unit
def orF {α β:Type} (F G:α->Option β) (x:α):Option β:=match F x with | some y=>some y | none=>G x
abbrev Ik:Type:=(zIx × zIx × Bool × Unit) × (Bool × Int × Unit) × (Int × Bool × List Bool × Unit)
section
open Classical
noncomputable def zIy (x:Ik):Option (Bool × (Bool × Int × Unit)) :=
 if x.1=((0,0,0,()),(0,0,0,()),false,())∧x.2.1=(false,0,())∧x.2.2.2.2.1=[] then some (true,(false,0,())) else none
noncomputable def zPi (x:Ik):Option (Bool × (Bool × Int × Unit)) :=
 if x.1=((1,1,0,()),(0,0,0,()),false,())∧x.2.1=(false,0,())∧x.2.2.1=1∧x.2.2.2.2.1=[] then some (true,(false,0,())) else none
noncomputable def zPj (x:Ik):Option (Bool × (Bool × Int × Unit)) :=
 if x.1=((1,1,0,()),(0,0,0,()),false,())∧x.2.1=(false,0,())∧x.2.2.1=2∧x.2.2.2.2.1=[] then some (false,(false,0,())) else none
noncomputable def nM (_n:Nat) (x:Ik):Option (Bool × (Bool × Int × Unit)):=orF zIy (orF zPi zPj) x
end
end Go.Dec
namespace Go.Dec
open Go.Proofs Go.Ce
theorem pure_or {P:Program} {f:FuncId} {ps rs:List Ty} {F G:bG ps->Option (bG rs)} (h:Pure P f ps rs F) (h':Pure P f ps rs G):Pure P f ps rs (orF F G) :=
 ⟨h.1,fun x y e=>by
  unfold orF at e
  cases hF:F x with
  | some z=>rw [hF] at e; exact h.2 x y (hF.trans e)
  | none=>rw [hF] at e; exact h'.2 x y e⟩
abbrev zZu:Ty:=.pair (.int .i64) (.pair (.int .i64) (.pair (.int .i64) .unit))
abbrev lI:List Ty:=[(.pair zZu (.pair zZu (.pair .bool .unit))),(.pair .bool (.pair (.int .i64) .unit)),(.pair (.int .i64) (.pair .bool (.pair (.slice .bool) .unit)))]
abbrev rC:List Ty:=[.bool,(.pair .bool (.pair (.int .i64) .unit))]
noncomputable abbrev runK (bs:List Bool) (x:Ik):Option (Bool × (Bool × Int × Unit)):=zPb Tryz.E 61 lI rC 2000 bs x
theorem len1 {bs:List Bool} (h:bs.length=1):∃ a,bs=[a]:=by
 match bs,h with
 | [a],_=>exact ⟨a,rfl⟩
theorem zPk (l a:Bool) (N:Int):runK [a] (((0,0,0,()),(0,0,0,()),false,()),(false,0,()),(N,l,[],()))=some (true,(false,0,())):=by
 cases a <;> kernel_rfl
theorem zLr (l:Bool) (N:Int):Jy lI (((0,0,0,()),(0,0,0,()),false,()),(false,0,()),(N,l,[],()))=1:=by kernel_rfl
theorem zPl (l a:Bool):runK [a] (((1,1,0,()),(0,0,0,()),false,()),(false,0,()),(1,l,[],()))=some (true,(false,0,())):=by
 cases a <;> kernel_rfl
theorem zPm (l a:Bool):runK [a] (((1,1,0,()),(0,0,0,()),false,()),(false,0,()),(2,l,[],()))=some (false,(false,0,())):=by
 cases a <;> kernel_rfl
theorem Vs (l:Bool) (N:Int):Jy lI (((1,1,0,()),(0,0,0,()),false,()),(false,0,()),(N,l,[],()))=1:=by kernel_rfl
theorem zLs:Pure Tryz.prog 61 lI rC zIy:=by
 refine yF Tryz.E_ok (by kernel_rfl) fun (x:Ik) y hxy bs hbs=>?_
 obtain ⟨r,s,N,l,h,_⟩:=x
 unfold zIy at hxy
 split at hxy
 ·rename_i hh
  obtain ⟨h1,h2,h3⟩:=hh
  simp only at h1 h2 h3
  simp only [Option.some.injEq] at hxy
  subst h1 h2 h3 hxy
  rw [zLr] at hbs
  obtain ⟨a,rfl⟩:=len1 hbs
  exact ⟨2000,zPk l a N⟩
 ·cases hxy
theorem zLt:Pure Tryz.prog 61 lI rC zPi:=by
 refine yF Tryz.E_ok (by kernel_rfl) fun (x:Ik) y hxy bs hbs=>?_
 obtain ⟨r,s,N,l,h,_⟩:=x
 unfold zPi at hxy
 split at hxy
 ·rename_i hh
  obtain ⟨h1,h2,h4,h3⟩:=hh
  simp only at h1 h2 h3 h4
  simp only [Option.some.injEq] at hxy
  subst h1 h2 h3 h4 hxy
  rw [Vs] at hbs
  obtain ⟨a,rfl⟩:=len1 hbs
  exact ⟨2000,zPl l a⟩
 ·cases hxy
theorem zLu:Pure Tryz.prog 61 lI rC zPj:=by
 refine yF Tryz.E_ok (by kernel_rfl) fun (x:Ik) y hxy bs hbs=>?_
 obtain ⟨r,s,N,l,h,_⟩:=x
 unfold zPj at hxy
 split at hxy
 ·rename_i hh
  obtain ⟨h1,h2,h4,h3⟩:=hh
  simp only at h1 h2 h3 h4
  simp only [Option.some.injEq] at hxy
  subst h1 h2 h3 h4 hxy
  rw [Vs] at hbs
  obtain ⟨a,rfl⟩:=len1 hbs
  exact ⟨2000,zPm l a⟩
 ·cases hxy
theorem Wj (n:Nat):Pure Tryz.prog 61 lI rC (nM n):=pure_or zLs (pure_or zLt zLu)
end Go.Dec
