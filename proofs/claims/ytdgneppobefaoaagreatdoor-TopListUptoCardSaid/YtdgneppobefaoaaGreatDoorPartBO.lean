/- Part of a proof over this seat: a library of my own, and what it says of this seat. No statement is proved here. -/
import Derived.Test.YtdgneppobefaoaaGreatDoorPartBJ
import Derived.Test.YtdgneppobefaoaaGreatDoorPartBI
import Derived.Test.YtdgneppobefaoaaGreatDoorPartAX
import Derived.KernelRfl
namespace Go.Dec
abbrev oO:Type:=Int × List Int × Int × Int × Int × Int × Int × Unit
abbrev zHo:Type:=Int × Int × Int × Unit
abbrev lU:Type:=(zHo × zHo × Bool × Unit) × Int × List UInt8 × List UInt8 × Int × Int × Int × List (List UInt8 × Int × Unit) × Bool × Bool × Unit
abbrev zHp:Type:=Bool × List (List oO × Bool × Unit) × List lU × Unit
abbrev eZ:Type:=zHp × Bool × List (List UInt8) × Bool × Unit
abbrev zHq:Type:=List UInt8 × List UInt8 × Unit
def ySh (a b:zHo) (not:Bool) (op n to:Int):lU:=((a,b,not,()),op,[],[],n,to,-1,[],false,false,())
abbrev noA:zHo:=(0,0,0,())
def ySi (quiet:Bool) (cs:List lU):eZ:=((false,[],cs,()),quiet,[],false,())
def zYx:List UInt8:=[115,101,100,32,45,110,32,39,108,32,48,39]
def zPw:eZ:=ySi true [ySh noA noA false 108 0 0]
abbrev zYy:Type:=(zHo × zHo × Bool × Unit) × (Bool × Int × Unit) × (Int × Bool × List Bool × Unit)
section
open Classical
noncomputable def yGl (x:zYy):Option (Bool × (Bool × Int × Unit)) :=
 if x.1=(noA,noA,false,())∧x.2.1=(false,0,())∧x.2.2.2.2.1=[] then some (true,(false,0,())) else none
noncomputable def wG (_n:Nat) (x:zYy):Option (Bool × (Bool × Int × Unit)):=yGl x
noncomputable def lV (_n:Nat) (x:List UInt8 × List zHq):Option (List eZ × Int × Int) :=
 if x=(zYx,[]) then some ([zPw],0,0) else none
noncomputable def lW (_n:Nat) (x:eZ × List zHq):Option (List zHq) :=
 if x=(zPw,[]) then some [] else none
end
def zPx (v:Nat):List UInt8:=if v < 8 then [UInt8.ofNat (48+v)] else if v < 64 then [UInt8.ofNat (48+v / 8),UInt8.ofNat (48+v % 8)] else [UInt8.ofNat (48+v / 8 / 8),UInt8.ofNat (48+v / 8 % 8),UInt8.ofNat (48+v % 8)]
def iL (_n:Nat) (x:Int × Int):Option (List UInt8):=chk (x.2 == 8 && (decide (0 <= x.1) && decide (x.1 < 256))) (some (zPx x.1.toNat))
def strings_Repeat (_n:Nat) (x:List UInt8 × Int):Option (List UInt8):=chk (x.1 == [48] && (decide (0 <= x.2) && decide (x.2 < 3))) (some (List.replicate x.2.toNat 48))
def Vl (s:List UInt8):Option (Int × Bool) :=
 match s with
 | a :: r=>br (a == 92) (chk (decide (r.length <= 2)) (some (0,true)))
  (match r with
  | [b,c]=>chk ((decide (48 <= a.toNat) && decide (a.toNat < 52)) && ((decide (48 <= b.toNat) && decide (b.toNat < 56)) && (decide (48 <= c.toNat) && decide (c.toNat < 56)))) (some (((a.toNat:Int) - 48) * 8 * 8+((b.toNat:Int) - 48) * 8+((c.toNat:Int) - 48),false))
  | _=>none)
 | []=>none
def fP (_n:Nat) (x:List UInt8 × Int × Int):Option (Int × Bool):=chk (x.2.1 == 8 && x.2.2 == 8) (Vl x.1)
end Go.Dec
namespace Go.Dec
open Go.Proofs Go.Ce
abbrev ySj:Ty:=.pair (.int .i64) (.pair (.arr 4 (.int .u64)) (.pair (.int .i64) (.pair (.int .i64) (.pair (.int .i64) (.pair (.int .i64) (.pair (.int .i64) .unit))))))
abbrev AddT:Ty:=.pair (.int .i64) (.pair (.int .i64) (.pair (.int .i64) .unit))
abbrev ySk:Ty:=.pair (.pair AddT (.pair AddT (.pair .bool .unit))) (.pair (.int .u8) (.pair .str (.pair .str (.pair (.int .i64) (.pair (.int .i64) (.pair (.int .i64) (.pair (.slice (.pair .str (.pair (.int .i64) .unit))) (.pair .bool (.pair .bool .unit)))))))))
abbrev ySl:Ty:=.pair .bool (.pair (.slice (.pair (.slice ySj) (.pair .bool .unit))) (.pair (.slice ySk) .unit))
abbrev yNn:Ty:=.pair ySl (.pair .bool (.pair (.slice .str) (.pair .bool .unit)))
abbrev yGm:Ty:=.pair .str (.pair .str .unit)
abbrev vU:List Ty:=[yNn,.slice yGm]
abbrev Cr:List Ty:=[.slice yGm]
abbrev vV:List Ty:=[.str,.slice yGm]
abbrev Ct:List Ty:=[.slice yNn,.int .i64,.int .i64]
abbrev Js:List Ty:=[(.pair AddT (.pair AddT (.pair .bool .unit))),(.pair .bool (.pair (.int .i64) .unit)),(.pair (.int .i64) (.pair .bool (.pair (.slice .bool) .unit)))]
abbrev Vm:List Ty:=[.bool,(.pair .bool (.pair (.int .i64) .unit))]
theorem len1 {bs:List Bool} (h:bs.length=1):∃ a,bs=[a]:=by
 match bs,h with
 | [a],_=>exact ⟨a,rfl⟩
theorem ySm {bs:List Bool} (h:bs.length=4):∃ a b c d,bs=[a,b,c,d]:=by
 match bs,h with
 | [a,b,c,d],_=>exact ⟨a,b,c,d,rfl⟩
noncomputable abbrev runK (bs:List Bool) (x:zYy):Option (Bool × (Bool × Int × Unit)):=Qt Tryz.E 248 Js Vm 2000 bs x
theorem yGn (l a:Bool) (N:Int):runK [a] ((noA,noA,false,()),(false,0,()),(N,l,[],()))=some (true,(false,0,())):=by
 cases a <;> kernel_rfl
theorem yCh (l:Bool) (N:Int):Qs Js ((noA,noA,false,()),(false,0,()),(N,l,[],()))=1:=by kernel_rfl
theorem zKv (n:Nat):Pure Tryz.prog 248 Js Vm (wG n):=by
 refine sH Tryz.E_ok (by kernel_rfl) fun (x:zYy) y hxy bs hbs=>?_
 obtain ⟨r,s,N,l,h,_⟩:=x
 unfold wG yGl at hxy
 split at hxy
 ·rename_i hh
  obtain ⟨h1,h2,h3⟩:=hh
  simp only at h1 h2 h3
  simp only [aA] at hxy
  subst h1 h2 h3 hxy
  rw [yCh] at hbs
  obtain ⟨a,rfl⟩:=len1 hbs
  exact ⟨2000,yGn l a N⟩
 ·cases hxy
theorem zSt (a:Bool):Qt Tryz.E 63 vV Ct 20000 [a] (zYx,[])=some ([zPw],0,0):=by cases a <;> kernel_rfl
theorem zPy:Qs vV (zYx,[])=1:=by kernel_rfl
theorem Yi (n:Nat):Pure Tryz.prog 63 vV Ct (lV n):=by
 refine sH Tryz.E_ok (by kernel_rfl) fun (x:List UInt8 × List zHq) y hxy bs hbs=>?_
 unfold lV at hxy
 split at hxy
 ·rename_i hh
  subst hh
  simp only [aA] at hxy
  subst hxy
  rw [zPy] at hbs
  obtain ⟨a,rfl⟩:=len1 hbs
  exact ⟨20000,zSt a⟩
 ·cases hxy
theorem zYz (a b c d:Bool):Qt Tryz.E 159 vU Cr 2000 [a,b,c,d] (zPw,[])=some []:=by cases a <;> cases b <;> cases c <;> cases d <;> kernel_rfl
theorem zSu:Qs vU (zPw,[])=4:=by kernel_rfl
theorem Yj (n:Nat):Pure Tryz.prog 159 vU Cr (lW n):=by
 refine sH Tryz.E_ok (by kernel_rfl) fun (x:eZ × List zHq) y hxy bs hbs=>?_
 unfold lW at hxy
 split at hxy
 ·rename_i hh
  subst hh
  simp only [aA] at hxy
  subst hxy
  rw [zSu] at hbs
  obtain ⟨a,b,c,d,rfl⟩:=ySm hbs
  exact ⟨2000,zYz a b c d⟩
 ·cases hxy
end Go.Dec
