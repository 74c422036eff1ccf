/- Part of a proof over this seat: a library of my own, and what it says of this seat. No statement is proved here. -/
import Derived.Test.YtdgneppobefaoaaGreatDoorPartBG
import Derived.Test.YtdgneppobefaoaaGreatDoorPartAX
import Derived.KernelRfl
import Derived.Test.YtdgneppobefaoaaGreatDoorPartBJ
namespace Go.Proofs
open Go.Ce
set_option maxRecDepth 100000
namespace Tryz.Bd
theorem d108 (lo:Nat) (A:W) (args:List AV) (ha:args=[.it .u8 (.ofNat 108)]):dJ Tryz.prog lo 206 args A (.ret (.fn (.func 259) [] [])) A:=by
 refine nG (E:=Tryz.E1) Tryz.E1_ok (k:=2000) (n:=20) (its:=9) (a1:=10) (a2:=11) (es:=es) (clk:=18) (eh:=(.st [108],.fn (.func 259) [] [],9)) got body shp tmps (by decide) (nx:=nx) (ex:=ex) (by kernel_rfl) (by kernel_rfl) (by kernel_rfl) (by kernel_rfl) (by kernel_rfl) (by kernel_rfl) (by decide) (by kernel_rfl)
  (by kernel_rfl) (by kernel_rfl) (by kernel_rfl) (by kernel_rfl) (by kernel_rfl) (by kernel_rfl) (by simp [es]) (fun e he hne σ=>?_) (fun σ=>by kernel_rfl) lo A args ha
 simp only [es,List.mem_cons,List.not_mem_nil,or_false] at he
 rcases he with rfl | rfl | rfl | rfl | rfl | rfl | rfl | rfl | rfl | rfl | rfl | rfl | rfl | rfl | rfl | rfl | rfl | rfl <;> first | exact absurd rfl hne | kernel_rfl
end Tryz.Bd
end Go.Proofs
namespace Go.Dec
open Go.Proofs
def zHr:List (Int × Nat):=[(108,259)]
theorem zZa:Hands Tryz.prog 206 zHr:=⟨by kernel_rfl,fun p hp=>by
 simp only [zHr,List.mem_cons,List.not_mem_nil,or_false] at hp
 rcases hp with rfl
 ·exact zPo (b:=108) (by kernel_rfl) (fun lo A=>Tryz.Bd.d108 lo A _ rfl)⟩
end Go.Dec
namespace Go.Dec
def xV (_n:Nat) (_x:((Bool × List (List (Int × List (Int) × Int × Int × Int × Int × Int × Unit) × Bool × Unit) × List (((Int × Int × Int × Unit) × (Int × Int × Int × Unit) × Bool × Unit) × Int × List UInt8 × List UInt8 × Int × Int × Int × List (List UInt8 × Int × Unit) × Bool × Bool × Unit) × Unit) × Bool × List (List UInt8) × Bool × Unit) × ((Bool × List (List (Int × List (Int) × Int × Int × Int × Int × Int × Unit) × Bool × Unit) × List (((Int × Int × Int × Unit) × (Int × Int × Int × Unit) × Bool × Unit) × Int × List UInt8 × List UInt8 × Int × Int × Int × List (List UInt8 × Int × Unit) × Bool × Bool × Unit) × Unit) × Bool × List (List UInt8) × Bool × Unit)):Option ((Bool)):=none
end Go.Dec
