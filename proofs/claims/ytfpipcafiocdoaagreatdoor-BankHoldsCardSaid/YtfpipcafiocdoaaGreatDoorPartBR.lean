/- Part of a proof over this seat: a library of my own, and what it says of this seat. No statement is proved here. -/
import Derived.Test.YtfpipcafiocdoaaGreatDoorPartBN
import Derived.Test.YtfpipcafiocdoaaGreatDoorPartBI
import Derived.Test.YtfpipcafiocdoaaGreatDoorPartAX
import Derived.KernelRfl
namespace Go.Dec
def aW (op:Int):tK:=(((0,(0,(0,()))),((0,(0,(0,()))),(false,()))),(op,([],([],(0,(0,((-1),([],(false,(false,()))))))))))
def zCc:tK:=(((1,(1,(0,()))),((0,(0,(0,()))),(false,()))),(123,([],([],(0,(3,((-1),([],(false,(false,()))))))))))
def aD:List tK:=[zCc,aW 104,aW 100,aW 125,aW 120,aW 120,aW 104,aW 103,aW 72,aW 71]
def Kc:List UInt8:=[49,123,104,59,100,125,59,120,59,120,59,104,59,103,59,72,59,71]
def oO (_n:Nat) (x:List UInt8):Option (yEg × Bool):=if x=Kc then some ((false,[],aD,()),true) else none
end Go.Dec
namespace Go.Dec
open Go.Proofs Go.Ce
abbrev yCk:Ty:=.pair (.int .i64) (.pair (.arr 4 (.int .u64)) (.pair (.int .i64) (.pair (.int .i64) (.pair (.int .i64) (.pair (.int .i64) (.pair (.int .i64) .unit))))))
abbrev zPx:Ty:=.pair (.int .i64) (.pair (.int .i64) (.pair (.int .i64) .unit))
abbrev yCl:Ty:=.pair (.pair zPx (.pair zPx (.pair .bool .unit))) (.pair (.int .u8) (.pair .str (.pair .str (.pair (.int .i64) (.pair (.int .i64) (.pair (.int .i64) (.pair (.slice (.pair .str (.pair (.int .i64) .unit))) (.pair .bool (.pair .bool .unit)))))))))
abbrev yCm:Ty:=.pair .bool (.pair (.slice (.pair (.slice yCk) (.pair .bool .unit))) (.pair (.slice yCl) .unit))
abbrev rE:List Ty:=[.str]
abbrev xA:List Ty:=[yCm,.bool]
theorem zIr:zIi Tryz.E 16 rE xA 10000 [] Kc=some ((false,[],aD,()),true):=by kernel_rfl
theorem zDo:Gf rE Kc=0:=by kernel_rfl
theorem Lu (n:Nat):Pure Tryz.prog 16 rE xA (oO n):=by
 refine tJ Tryz.E_ok (by kernel_rfl) fun (x:List UInt8) y hxy bs hbs=>?_
 unfold oO at hxy
 split at hxy
 ·rename_i hh
  subst hh
  simp only [Option.some.injEq] at hxy
  subst hxy
  rw [zDo] at hbs
  obtain rfl:=List.length_eq_zero_iff.1 hbs
  exact ⟨10000,zIr⟩
 ·cases hxy
end Go.Dec
