/- Part of a proof over this seat: a library of my own, and what it says of this seat. No statement is proved here. -/
import Derived.Test.YtfpipcafiocdoaaGreatDoorPfrtBJ
import Derived.Test.YtfpipcafiocdoaaGreatDoorPfrtBI
import Derived.Test.YtfpipcafiocdoaaGreatDoorPfrtAX
import Derived.KernelRfl
namespace Go.Dec
abbrev lW:Type:=Int × List Int × Int × Int × Int × Int × Int × Unit
abbrev yDc:Type:=Int × Int × Int × Unit
abbrev lX:Type:=(yDc × yDc × Bool × Unit) × Int × List UInt8 × List UInt8 × Int × Int × Int × List (List UInt8 × Int × Unit) × Bool × Bool × Unit
abbrev yHc:Type:=Bool × List (List lW × Bool × Unit) × List lX × Unit
abbrev aS:Type:=yHc × Bool × List (List UInt8) × Bool × Unit
def Gb:aS:=((false,[],[],()),false,[],true,())
def isBad:aS->Bool
 | ((false,[],[],_),false,[],true,_)=>true
 | _=>false
theorem Qa {s:aS} (h:isBad s=true):s=Gb:=by
 unfold isBad at h
 split at h
 ·rfl
 ·cases h
def uU (_n:Nat) (x:aS × aS):Option Bool:=match isBad x.1,isBad x.2 with
 | true,true=>some false
 | _,_=>none
def sG (_n:Nat) (x:aS):Option (List (List UInt8) × List (List UInt8)):=match isBad x with
 | true=>some ([],[])
 | _=>none
end Go.Dec
namespace Go.Dec
open Go.Proofs Go.Ce
abbrev yHd:Ty:=.pair (.int .i64) (.pair (.arr 4 (.int .u64)) (.pair (.int .i64) (.pair (.int .i64) (.pair (.int .i64) (.pair (.int .i64) (.pair (.int .i64) .unit))))))
abbrev AddT:Ty:=.pair (.int .i64) (.pair (.int .i64) (.pair (.int .i64) .unit))
abbrev yHe:Ty:=.pair (.pair AddT (.pair AddT (.pair .bool .unit))) (.pair (.int .u8) (.pair .str (.pair .str (.pair (.int .i64) (.pair (.int .i64) (.pair (.int .i64) (.pair (.slice (.pair .str (.pair (.int .i64) .unit))) (.pair .bool (.pair .bool .unit)))))))))
abbrev yHf:Ty:=.pair .bool (.pair (.slice (.pair (.slice yHd) (.pair .bool .unit))) (.pair (.slice yHe) .unit))
abbrev zSc:Ty:=.pair yHf (.pair .bool (.pair (.slice .str) (.pair .bool .unit)))
abbrev qG:List Ty:=[zSc]
abbrev vZ:List Ty:=[.slice .str,.slice .str]
abbrev sH:List Ty:=[zSc,zSc]
abbrev yT:List Ty:=[.bool]
theorem Gc {bs:List Bool}:(k:Nat)->bs.length=k+1->∃ a r,bs=a :: r∧r.length=k:=fun k h=>by
 cases bs with
 | nil=>cases h
 | cons a r=>exact ⟨a,r,rfl,by simpa using h⟩
theorem zOi (a b c:Bool):zLk Tryz.E 128 qG vZ 2000 [a,b,c] Gb=some ([],[]):=by
 cases a <;> cases b <;> cases c <;> kernel_rfl
theorem zLo:Mg qG Gb=3:=by kernel_rfl
theorem Ml (n:Nat):Pure Tryz.prog 128 qG vZ (sG n):=by
 refine Jt Tryz.E_ok (by kernel_rfl) fun (x:aS) y hxy bs hbs=>?_
 unfold sG at hxy
 split at hxy
 ·rename_i hh
  obtain rfl:=Qa hh
  simp only [Option.some.injEq] at hxy
  subst hxy
  rw [zLo] at hbs
  obtain ⟨a,r1,rfl,g1⟩:=Gc 2 hbs
  obtain ⟨b,r2,rfl,g2⟩:=Gc 1 g1
  obtain ⟨c,r3,rfl,g3⟩:=Gc 0 g2
  obtain rfl:=List.length_eq_zero_iff.1 g3
  exact ⟨2000,zOi a b c⟩
 ·cases hxy
theorem zOj (a b c d e f:Bool):zLk Tryz.E 85 sH yT 2000 [a,b,c,d,e,f] (Gb,Gb)=some false:=by
 cases a <;> cases b <;> cases c <;> cases d <;> cases e <;> cases f <;> kernel_rfl
theorem zLp:Mg sH (Gb,Gb)=6:=by kernel_rfl
theorem Qb (n:Nat):Pure Tryz.prog 85 sH yT (uU n):=by
 refine Jt Tryz.E_ok (by kernel_rfl) fun (x:aS × aS) y hxy bs hbs=>?_
 obtain ⟨x1,x2⟩:=x
 unfold uU at hxy
 split at hxy
 ·rename_i h1 h2
  obtain rfl:=Qa h1
  obtain rfl:=Qa h2
  simp only [Option.some.injEq] at hxy
  subst hxy
  rw [zLp] at hbs
  obtain ⟨a,r1,rfl,g1⟩:=Gc 5 hbs
  obtain ⟨b,r2,rfl,g2⟩:=Gc 4 g1
  obtain ⟨c,r3,rfl,g3⟩:=Gc 3 g2
  obtain ⟨d,r4,rfl,g4⟩:=Gc 2 g3
  obtain ⟨e,r5,rfl,g5⟩:=Gc 1 g4
  obtain ⟨f,r6,rfl,g6⟩:=Gc 0 g5
  obtain rfl:=List.length_eq_zero_iff.1 g6
  exact ⟨2000,zOj a b c d e f⟩
 ·cases hxy
end Go.Dec
