/- Part of a proof over this seat: a library of my own, and what it says of this seat. No statement is proved here. -/
import Derived.Test.YtfpipcafiocdoaaGreatDoorPfrtBJ
import Derived.Test.YtfpipcafiocdoaaGreatDoorPfrtBO
import Derived.Test.YtfpipcafiocdoaaGreatDoorPfrtBP
import Derived.Test.YtfpipcafiocdoaaGreatDoorPfrtBL
import Derived.Test.YtfpipcafiocdoaaGreatDoorPfrtBM
import Derived.Test.YtfpipcafiocdoaaGreatDoorPfrtBN
namespace Go.Dec
def qP (_n:Nat) (_x:((Bool × List (List (Int × List (Int) × Int × Int × Int × Int × Int × Unit) × Bool × Unit) × List (((Int × Int × Int × Unit) × (Int × Int × Int × Unit) × Bool × Unit) × Int × List UInt8 × List UInt8 × Int × Int × Int × List (List UInt8 × Int × Unit) × Bool × Bool × Unit) × Unit) × Bool × List (List UInt8) × Bool × Unit) × (List UInt8) × (List (List UInt8 × List UInt8 × Unit))):Option ((List (List UInt8 × Bool × Unit)) × (Int)):=none
def qQ (_n:Nat) (_x:((Bool × List (List (Int × List (Int) × Int × Int × Int × Int × Int × Unit) × Bool × Unit) × List (((Int × Int × Int × Unit) × (Int × Int × Int × Unit) × Bool × Unit) × Int × List UInt8 × List UInt8 × Int × Int × Int × List (List UInt8 × Int × Unit) × Bool × Bool × Unit) × Unit) × Bool × List (List UInt8) × Bool × Unit) × (List (List UInt8 × List UInt8 × Unit))):Option ((List (List UInt8 × List UInt8 × Unit))):=none
end Go.Dec
namespace Go.Dec
open Go.Proofs
theorem Xy {P:Program} {f:FuncId} {ts rs:List Ty} {F:bI ts->Option (bI rs)} (h:fC P f=true) (hF:∀ x,F x=none):Pure P f ts rs F:=⟨h,fun x y e=>by rw [hF] at e; cases e⟩
abbrev wE:List Ty:=[(.pair (.pair .bool (.pair (.slice (.pair (.slice (.pair (.int .i64) (.pair (.arr 4 (.int .u64)) (.pair (.int .i64) (.pair (.int .i64) (.pair (.int .i64) (.pair (.int .i64) (.pair (.int .i64) .unit)))))))) (.pair .bool .unit))) (.pair (.slice (.pair (.pair (.pair (.int .i64) (.pair (.int .i64) (.pair (.int .i64) .unit))) (.pair (.pair (.int .i64) (.pair (.int .i64) (.pair (.int .i64) .unit))) (.pair .bool .unit))) (.pair (.int .u8) (.pair .str (.pair .str (.pair (.int .i64) (.pair (.int .i64) (.pair (.int .i64) (.pair (.slice (.pair .str (.pair (.int .i64) .unit))) (.pair .bool (.pair .bool .unit))))))))))) .unit))) (.pair .bool (.pair (.slice .str) (.pair .bool .unit)))),.str,(.slice (.pair .str (.pair .str .unit)))]
abbrev wF:List Ty:=[(.slice (.pair .str (.pair .bool .unit))),(.int .i64)]
theorem Ct (n:Nat):Pure Tryz.prog 139 wE wF (qP n):=Xy (by kernel_rfl) (fun _=>rfl)
abbrev wG:List Ty:=[(.pair (.pair .bool (.pair (.slice (.pair (.slice (.pair (.int .i64) (.pair (.arr 4 (.int .u64)) (.pair (.int .i64) (.pair (.int .i64) (.pair (.int .i64) (.pair (.int .i64) (.pair (.int .i64) .unit)))))))) (.pair .bool .unit))) (.pair (.slice (.pair (.pair (.pair (.int .i64) (.pair (.int .i64) (.pair (.int .i64) .unit))) (.pair (.pair (.int .i64) (.pair (.int .i64) (.pair (.int .i64) .unit))) (.pair .bool .unit))) (.pair (.int .u8) (.pair .str (.pair .str (.pair (.int .i64) (.pair (.int .i64) (.pair (.int .i64) (.pair (.slice (.pair .str (.pair (.int .i64) .unit))) (.pair .bool (.pair .bool .unit))))))))))) .unit))) (.pair .bool (.pair (.slice .str) (.pair .bool .unit)))),(.slice (.pair .str (.pair .str .unit)))]
abbrev wH:List Ty:=[(.slice (.pair .str (.pair .str .unit)))]
theorem Cu (n:Nat):Pure Tryz.prog 138 wG wH (qQ n):=Xy (by kernel_rfl) (fun _=>rfl)
end Go.Dec
