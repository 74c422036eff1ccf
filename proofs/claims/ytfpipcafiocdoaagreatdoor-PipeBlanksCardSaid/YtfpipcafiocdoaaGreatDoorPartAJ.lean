/- Part of a proof over this seat: a library of my own, and what it says of this seat. No statement is proved here. -/
import Derived.Test.YtfpipcafiocdoaaGreatDoorPartAI
import Derived.WalkKit
import Derived.OwnWalkIn
import Derived.TacticsInMore
import Derived.Lib.SliceRun
namespace Go.Dec
open Go.RowKit
section
variable {P : Program} {f : FuncId} {fn : Func} {t tb e : TypeId} {p0 p1 p2 p3 p4 p5 p6 p7 : String}
set_option maxHeartbeats 1000000 in
set_option maxRecDepth 100000 in
set_option maxHeartbeats 1000000 in
set_option maxRecDepth 100000 in
end
end Go.Dec
namespace Go.Dec
section
variable {C : Ctx} {β : Nat -> Pl} {w w1 : World} {h : List Ob} {σ : St} {a : Act}
end
end Go.Dec
