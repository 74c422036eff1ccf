/- Part of a proof over this seat: a library of my own, and what it says of this seat. No statement is proved here. -/
import Derived.Test.YtdgneppobefaoaaGreatDoorPartBJ
import Derived.Test.YtdgneppobefaoaaGreatDoorPartBL
import Derived.Test.YtdgneppobefaoaaGreatDoorPartBM
import Derived.Test.YtdgneppobefaoaaGreatDoorPartBN
import Derived.Test.YtdgneppobefaoaaGreatDoorPartBO
import Derived.Test.YtdgneppobefaoaaGreatDoorPartBI
import Derived.Test.YtdgneppobefaoaaGreatDoorPartBP
namespace Go.Dec
def wH (_n:Nat) (_x:((Bool × List (List (Int × List (Int) × Int × Int × Int × Int × Int × Unit) × Bool × Unit) × List (((Int × Int × Int × Unit) × (Int × Int × Int × Unit) × Bool × Unit) × Int × List UInt8 × List UInt8 × Int × Int × Int × List (List UInt8 × Int × Unit) × Bool × Bool × Unit) × Unit) × Bool × List (List UInt8) × Bool × Unit) × ((Bool × List (List (Int × List (Int) × Int × Int × Int × Int × Int × Unit) × Bool × Unit) × List (((Int × Int × Int × Unit) × (Int × Int × Int × Unit) × Bool × Unit) × Int × List UInt8 × List UInt8 × Int × Int × Int × List (List UInt8 × Int × Unit) × Bool × Bool × Unit) × Unit) × Bool × List (List UInt8) × Bool × Unit)):Option ((Bool)):=none
end Go.Dec
namespace Go.Dec
open Go.Proofs
abbrev zGt:List Ty:=[]
abbrev zGu:List Ty:=[.bool]
theorem zHm (n:Nat):Pure Tryz.prog 10 zGt zGu (showntop n):=Tryz.showntop
end Go.Dec
namespace Go.Dec
open Go.Proofs
theorem zYb {P:Program} {f:FuncId} {ts rs:List Ty} {F:bF ts->Option (bF rs)} (h:eY P f=true) (hF:∀ x,F x=none):Pure P f ts rs F:=⟨h,fun x y e=>by rw [hF] at e; cases e⟩
abbrev Ec:List Ty:=[(.pair (.pair .bool (.pair (.slice (.pair (.slice (.pair (.int .i64) (.pair (.arr 4 (.int .u64)) (.pair (.int .i64) (.pair (.int .i64) (.pair (.int .i64) (.pair (.int .i64) (.pair (.int .i64) .unit)))))))) (.pair .bool .unit))) (.pair (.slice (.pair (.pair (.pair (.int .i64) (.pair (.int .i64) (.pair (.int .i64) .unit))) (.pair (.pair (.int .i64) (.pair (.int .i64) (.pair (.int .i64) .unit))) (.pair .bool .unit))) (.pair (.int .u8) (.pair .str (.pair .str (.pair (.int .i64) (.pair (.int .i64) (.pair (.int .i64) (.pair (.slice (.pair .str (.pair (.int .i64) .unit))) (.pair .bool (.pair .bool .unit))))))))))) .unit))) (.pair .bool (.pair (.slice .str) (.pair .bool .unit)))),(.pair (.pair .bool (.pair (.slice (.pair (.slice (.pair (.int .i64) (.pair (.arr 4 (.int .u64)) (.pair (.int .i64) (.pair (.int .i64) (.pair (.int .i64) (.pair (.int .i64) (.pair (.int .i64) .unit)))))))) (.pair .bool .unit))) (.pair (.slice (.pair (.pair (.pair (.int .i64) (.pair (.int .i64) (.pair (.int .i64) .unit))) (.pair (.pair (.int .i64) (.pair (.int .i64) (.pair (.int .i64) .unit))) (.pair .bool .unit))) (.pair (.int .u8) (.pair .str (.pair .str (.pair (.int .i64) (.pair (.int .i64) (.pair (.int .i64) (.pair (.slice (.pair .str (.pair (.int .i64) .unit))) (.pair .bool (.pair .bool .unit))))))))))) .unit))) (.pair .bool (.pair (.slice .str) (.pair .bool .unit))))]
abbrev Ed:List Ty:=[.bool]
theorem Nz (n:Nat):Pure Tryz.prog 101 Ec Ed (wH n):=zYb (by kernel_rfl) (fun _=>rfl)
end Go.Dec
