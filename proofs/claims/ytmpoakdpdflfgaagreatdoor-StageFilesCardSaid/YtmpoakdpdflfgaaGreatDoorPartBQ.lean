/- Part of a proof over this seat: a library of my own, and what it says of this seat. No statement is proved here. -/
import Derived.Test.YtmpoakdpdflfgaaGreatDoorPartBJ
import Derived.Test.YtmpoakdpdflfgaaGreatDoorPartBP
namespace Go.Dec
def vF (_n:Nat) (_x:((Int × Int × Int × Unit) × (Int × Int × Int × Unit) × Bool × Unit) × (Bool × Int × Unit) × (Int × Bool × List (Bool) × Unit)):Option ((Bool) × (Bool × Int × Unit)):=none
end Go.Dec
namespace Go.Dec
open Go.Proofs
theorem zNa {P:Program} {f:FuncId} {ts rs:List Ty} {F:bE ts -> Option (bE rs)} (h:eG P f = true) (hF:∀ x,F x = none):Pure P f ts rs F:=⟨h,fun x y e=>by rw [hF] at e; cases e⟩
abbrev Bc:List Ty:=[(.pair (.pair (.int .i64) (.pair (.int .i64) (.pair (.int .i64) .unit))) (.pair (.pair (.int .i64) (.pair (.int .i64) (.pair (.int .i64) .unit))) (.pair .bool .unit))),(.pair .bool (.pair (.int .i64) .unit)),(.pair (.int .i64) (.pair .bool (.pair (.slice .bool) .unit)))]
abbrev Bf:List Ty:=[.bool,(.pair .bool (.pair (.int .i64) .unit))]
theorem Iw (n:Nat):Pure Tryz.prog 84 Bc Bf (vF n):=zNa (by kernel_rfl) (fun _=>rfl)
end Go.Dec
