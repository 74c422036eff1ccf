/- Part of a proof over this seat: a library of my own, and what it says of this seat. No statement is proved here. -/
import Derived.Test.YtdgneppobefaoaaGreatDoorPartBJ
import Derived.Test.YtdgneppobefaoaaGreatDoorPartBI
import Derived.Test.YtdgneppobefaoaaGreatDoorPartAX
import Derived.KernelRfl
namespace Go.Dec
abbrev dD:Type:=Int × List Int × Int × Int × Int × Int × Int × Unit
abbrev zEo:Type:=Int × Int × Int × Unit
abbrev cZ:Type:=(zEo × zEo × Bool × Unit) × Int × List UInt8 × List UInt8 × Int × Int × Int × List (List UInt8 × Int × Unit) × Bool × Bool × Unit
abbrev zEp:Type:=Bool × List (List dD × Bool × Unit) × List cZ × Unit
abbrev aY:Type:=zEp × Bool × List (List UInt8) × Bool × Unit
abbrev zEq:Type:=List UInt8 × List UInt8 × Unit
def yMv (a b:zEo) (not:Bool) (op n to:Int):cZ:=((a,b,not,()),op,[],[],n,to,-1,[],false,false,())
abbrev noA:zEo:=(0,0,0,())
def yMw (quiet:Bool) (cs:List cZ):aY:=((false,[],cs,()),quiet,[],false,())
def zUv:List UInt8:=[115,101,100,32,112]
def zMd:aY:=yMw false [yMv noA noA false 112 0 0]
abbrev zUw:Type:=(zEo × zEo × Bool × Unit) × (Bool × Int × Unit) × (Int × Bool × List Bool × Unit)
section
open Classical
noncomputable def yBy (x:zUw):Option (Bool × (Bool × Int × Unit)) :=
 if x.1=(noA,noA,false,())∧x.2.1=(false,0,())∧x.2.2.2.2.1=[] then some (true,(false,0,())) else none
noncomputable def uT (_n:Nat) (x:zUw):Option (Bool × (Bool × Int × Unit)):=yBy x
noncomputable def kV (_n:Nat) (x:List UInt8 × List zEq):Option (List aY × Int × Int) :=
 if x=(zUv,[]) then some ([zMd],0,0) else none
noncomputable def kW (_n:Nat) (x:aY × List zEq):Option (List zEq) :=
 if x=(zMd,[]) then some [] else none
end
end Go.Dec
namespace Go.Dec
open Go.Proofs Go.Ce
abbrev yMx:Ty:=.pair (.int .i64) (.pair (.arr 4 (.int .u64)) (.pair (.int .i64) (.pair (.int .i64) (.pair (.int .i64) (.pair (.int .i64) (.pair (.int .i64) .unit))))))
abbrev AddT:Ty:=.pair (.int .i64) (.pair (.int .i64) (.pair (.int .i64) .unit))
abbrev yMy:Ty:=.pair (.pair AddT (.pair AddT (.pair .bool .unit))) (.pair (.int .u8) (.pair .str (.pair .str (.pair (.int .i64) (.pair (.int .i64) (.pair (.int .i64) (.pair (.slice (.pair .str (.pair (.int .i64) .unit))) (.pair .bool (.pair .bool .unit)))))))))
abbrev yMz:Ty:=.pair .bool (.pair (.slice (.pair (.slice yMx) (.pair .bool .unit))) (.pair (.slice yMy) .unit))
abbrev yIt:Ty:=.pair yMz (.pair .bool (.pair (.slice .str) (.pair .bool .unit)))
abbrev yBz:Ty:=.pair .str (.pair .str .unit)
abbrev uH:List Ty:=[yIt,.slice yBz]
abbrev Af:List Ty:=[.slice yBz]
abbrev uI:List Ty:=[.str,.slice yBz]
abbrev Ag:List Ty:=[.slice yIt,.int .i64,.int .i64]
abbrev He:List Ty:=[(.pair AddT (.pair AddT (.pair .bool .unit))),(.pair .bool (.pair (.int .i64) .unit)),(.pair (.int .i64) (.pair .bool (.pair (.slice .bool) .unit)))]
abbrev Sc:List Ty:=[.bool,(.pair .bool (.pair (.int .i64) .unit))]
theorem len1 {bs:List Bool} (h:bs.length=1):∃ a,bs=[a]:=by
 match bs,h with
 | [a],_=>exact ⟨a,rfl⟩
theorem yNa {bs:List Bool} (h:bs.length=4):∃ a b c d,bs=[a,b,c,d]:=by
 match bs,h with
 | [a,b,c,d],_=>exact ⟨a,b,c,d,rfl⟩
noncomputable abbrev runK (bs:List Bool) (x:zUw):Option (Bool × (Bool × Int × Unit)):=zLu Tryz.E 248 He Sc 2000 bs x
theorem yCa (l a:Bool) (N:Int):runK [a] ((noA,noA,false,()),(false,0,()),(N,l,[],()))=some (true,(false,0,())):=by
 cases a <;> kernel_rfl
theorem zYa (l:Bool) (N:Int):Nv He ((noA,noA,false,()),(false,0,()),(N,l,[],()))=1:=by kernel_rfl
theorem zHl (n:Nat):Pure Tryz.prog 248 He Sc (uT n):=by
 refine Eb Tryz.E_ok (by kernel_rfl) fun (x:zUw) y hxy bs hbs=>?_
 obtain ⟨r,s,N,l,h,_⟩:=x
 unfold uT yBy at hxy
 split at hxy
 ·rename_i hh
  obtain ⟨h1,h2,h3⟩:=hh
  simp only at h1 h2 h3
  simp only [Option.some.injEq] at hxy
  subst h1 h2 h3 hxy
  rw [zYa] at hbs
  obtain ⟨a,rfl⟩:=len1 hbs
  exact ⟨2000,yCa l a N⟩
 ·cases hxy
theorem zOy (a:Bool):zLu Tryz.E 63 uI Ag 20000 [a] (zUv,[])=some ([zMd],0,0):=by cases a <;> kernel_rfl
theorem zMe:Nv uI (zUv,[])=1:=by kernel_rfl
theorem Vl (n:Nat):Pure Tryz.prog 63 uI Ag (kV n):=by
 refine Eb Tryz.E_ok (by kernel_rfl) fun (x:List UInt8 × List zEq) y hxy bs hbs=>?_
 unfold kV at hxy
 split at hxy
 ·rename_i hh
  subst hh
  simp only [Option.some.injEq] at hxy
  subst hxy
  rw [zMe] at hbs
  obtain ⟨a,rfl⟩:=len1 hbs
  exact ⟨20000,zOy a⟩
 ·cases hxy
theorem zUx (a b c d:Bool):zLu Tryz.E 159 uH Af 2000 [a,b,c,d] (zMd,[])=some []:=by cases a <;> cases b <;> cases c <;> cases d <;> kernel_rfl
theorem zOz:Nv uH (zMd,[])=4:=by kernel_rfl
theorem Vm (n:Nat):Pure Tryz.prog 159 uH Af (kW n):=by
 refine Eb Tryz.E_ok (by kernel_rfl) fun (x:aY × List zEq) y hxy bs hbs=>?_
 unfold kW at hxy
 split at hxy
 ·rename_i hh
  subst hh
  simp only [Option.some.injEq] at hxy
  subst hxy
  rw [zOz] at hbs
  obtain ⟨a,b,c,d,rfl⟩:=yNa hbs
  exact ⟨2000,zUx a b c d⟩
 ·cases hxy
end Go.Dec
