/- Part of a proof over this seat: a library of my own, and what it says of this seat. No statement is proved here. -/
import Derived.Test.YtdgneppobefaoaaGreatDoorPartBG
import Derived.Test.YtdgneppobefaoaaGreatDoorPartAX
import Derived.Test.YtdgneppobefaoaaGreatDoorPartBJ
import Derived.Test.YtdgneppobefaoaaGreatDoorPartBL
import Derived.Test.YtdgneppobefaoaaGreatDoorPartBM
import Derived.Test.YtdgneppobefaoaaGreatDoorPartBN
import Derived.Test.YtdgneppobefaoaaGreatDoorPartBO
import Derived.Test.YtdgneppobefaoaaGreatDoorPartBI
namespace Go.Dec
open Go.Proofs
def Lj:List (Int × Nat):=[(112,261),(71,258),(104,258)]
theorem Pm:Hands Tryz.prog 206 Lj:=⟨by kernel_rfl,fun p hp=>by
 simp only [Lj,List.mem_cons,List.not_mem_nil,or_false] at hp
 rcases hp with rfl | rfl | rfl
 ·exact Fq (b:=112) (by kernel_rfl) (fun lo A=>Tryz.Bd.d112 lo A _ rfl)
 ·exact Fq (b:=71) (by kernel_rfl) (fun lo A=>Tryz.Bd.d71 lo A _ rfl)
 ·exact Fq (b:=104) (by kernel_rfl) (fun lo A=>Tryz.Bd.d104 lo A _ rfl)⟩
end Go.Dec
namespace Go.Dec
def xB (_n:Nat) (_x:((Bool × List (List (Int × List (Int) × Int × Int × Int × Int × Int × Unit) × Bool × Unit) × List (((Int × Int × Int × Unit) × (Int × Int × Int × Unit) × Bool × Unit) × Int × List UInt8 × List UInt8 × Int × Int × Int × List (List UInt8 × Int × Unit) × Bool × Bool × Unit) × Unit) × Bool × List (List UInt8) × Bool × Unit) × ((Bool × List (List (Int × List (Int) × Int × Int × Int × Int × Int × Unit) × Bool × Unit) × List (((Int × Int × Int × Unit) × (Int × Int × Int × Unit) × Bool × Unit) × Int × List UInt8 × List UInt8 × Int × Int × Int × List (List UInt8 × Int × Unit) × Bool × Bool × Unit) × Unit) × Bool × List (List UInt8) × Bool × Unit)):Option ((Bool)):=none
end Go.Dec
namespace Go.Dec
open Go.Proofs
abbrev zHh:List Ty:=[]
abbrev zHi:List Ty:=[.bool]
theorem zIa (n:Nat):Pure Tryz.prog 10 zHh zHi (showntop n):=Tryz.showntop
end Go.Dec
namespace Go.Dec
open Go.Proofs
theorem zYm {P:Program} {f:FuncId} {ts rs:List Ty} {F:bG ts->Option (bG rs)} (h:fA P f=true) (hF:∀ x,F x=none):Pure P f ts rs F:=⟨h,fun x y e=>by rw [hF] at e; cases e⟩
abbrev Fv:List Ty:=[(.pair (.pair .bool (.pair (.slice (.pair (.slice (.pair (.int .i64) (.pair (.arr 4 (.int .u64)) (.pair (.int .i64) (.pair (.int .i64) (.pair (.int .i64) (.pair (.int .i64) (.pair (.int .i64) .unit)))))))) (.pair .bool .unit))) (.pair (.slice (.pair (.pair (.pair (.int .i64) (.pair (.int .i64) (.pair (.int .i64) .unit))) (.pair (.pair (.int .i64) (.pair (.int .i64) (.pair (.int .i64) .unit))) (.pair .bool .unit))) (.pair (.int .u8) (.pair .str (.pair .str (.pair (.int .i64) (.pair (.int .i64) (.pair (.int .i64) (.pair (.slice (.pair .str (.pair (.int .i64) .unit))) (.pair .bool (.pair .bool .unit))))))))))) .unit))) (.pair .bool (.pair (.slice .str) (.pair .bool .unit)))),(.pair (.pair .bool (.pair (.slice (.pair (.slice (.pair (.int .i64) (.pair (.arr 4 (.int .u64)) (.pair (.int .i64) (.pair (.int .i64) (.pair (.int .i64) (.pair (.int .i64) (.pair (.int .i64) .unit)))))))) (.pair .bool .unit))) (.pair (.slice (.pair (.pair (.pair (.int .i64) (.pair (.int .i64) (.pair (.int .i64) .unit))) (.pair (.pair (.int .i64) (.pair (.int .i64) (.pair (.int .i64) .unit))) (.pair .bool .unit))) (.pair (.int .u8) (.pair .str (.pair .str (.pair (.int .i64) (.pair (.int .i64) (.pair (.int .i64) (.pair (.slice (.pair .str (.pair (.int .i64) .unit))) (.pair .bool (.pair .bool .unit))))))))))) .unit))) (.pair .bool (.pair (.slice .str) (.pair .bool .unit))))]
abbrev Fz:List Ty:=[.bool]
theorem Pn (n:Nat):Pure Tryz.prog 101 Fv Fz (xB n):=zYm (by kernel_rfl) (fun _=>rfl)
end Go.Dec
